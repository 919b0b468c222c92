/- A part of the proof: PmM. -/
import Derived.Test.YtaeaffgjdcigoaaGreatC09
set_option linter.all false
namespace Go.Proofs.YtaeaffgjdcigoaaGreat
open Go
section
variable {w0:World} {S0:Nat->Nat->Prop} {K0:Nat->Prop} {N:Cx} {τ:Nat->PV} {objs:List (Nat×Obj')} {a:Act} {w w':World} {S S':Nat->Nat->Prop} {β β' βf:Bm} {h:Nat->Nat}
theorem eZ {v pv}(r:Rep w S β v (rn0 h pv))(hl:lv0 pv=true):Rep w S (β.ren h) v pv:=by
 cases pv with
 |agg cs=>grind [lv0]| tup cs=>grind [lv0]| fn f cs=>grind [lv0]| ptr m off=>obtain⟨b,hβ,rfl⟩:=kC r;exact .ptr hβ
 |aptr m s i off=>obtain⟨b,hβ,rfl⟩:=kP r;exact .aptr hβ
 |osl m s i len =>
  rcases qK r with⟨hn,ho,hl,aa,rfl⟩|⟨b,cap,vs,T,hβ,hlc,hw,hsz,rfl⟩;{exact .osl0 hn ho hl};{exact .osl hβ hlc hw hsz}
 |nil=>rw[fL r];exact .nil| dptr cs o=>obtain⟨b,o',vals,hS,rfl,hf,hc,hr⟩:=aR r;exact .dptr vals hS hf hc hr
 |nilf=>cases r with|c hf h=>cases hf|nilf=>exact .nilf
 |nilp=>cases r with|c hf h=>cases hf|nilp=>exact .nilp
 |mpv n=>obtain⟨b,hβ,rfl⟩:=nH r;exact .mpv hβ
 |emp=>obtain⟨a,hv⟩:=eY r;subst hv;exact .emp a
 |_=>exact .c rfl (zD4 r rfl)
theorem zHT {v pv}(r:Rep w S β v (rn1 h pv))(hl:lv1 pv=true):Rep w S (β.ren h) v pv:=by
 cases pv with
 |agg cs =>
  obtain⟨vs,rfl,h1,h2⟩:=qL r;rw[zL] at h1;exact .agg h1 fun j hj=>eZ (by have:=h2 j (by grind [zL]);rwa [yJ _ rfl] at this) (wU (by grind [lv1]) j hj)
 |tup cs =>
  obtain⟨vs,rfl,h1,h2⟩:=fK r;rw[zL] at h1;exact .tup h1 fun j hj=>eZ (by have:=h2 j (by grind [zL]);rwa [yJ _ rfl] at this) (wU (by grind [lv1]) j hj)
 |fn f cs =>
  obtain⟨vs,rfl,h1,h2⟩:=gM r;rw[zL] at h1;exact .fn h1 fun j hj=>eZ (by have:=h2 j (by grind [zL]);rwa [yJ _ rfl] at this) (wU (by grind [lv1]) j hj)
 |_=>exact eZ r rfl
theorem zIY {v pv}(r:Rep w S β v (ren h pv))(hl:lv pv=true):Rep w S (β.ren h) v pv:=by
 cases pv with
 |agg cs =>
  obtain⟨vs,rfl,h1,h2⟩:=qL r;rw[zL] at h1;exact .agg h1 fun j hj=>zHT (by have:=h2 j (by grind [zL]);rwa [yJ _ rfl] at this) (wU (by grind [lv]) j hj)
 |tup cs =>
  obtain⟨vs,rfl,h1,h2⟩:=fK r;rw[zL] at h1;exact .tup h1 fun j hj=>zHT (by have:=h2 j (by grind [zL]);rwa [yJ _ rfl] at this) (wU (by grind [lv]) j hj)
 |fn f cs =>
  obtain⟨vs,rfl,h1,h2⟩:=gM r;rw[zL] at h1;exact .fn h1 fun j hj=>zHT (by have:=h2 j (by grind [zL]);rwa [yJ _ rfl] at this) (wU (by grind [lv]) j hj)
 |_=>exact eZ r rfl
theorem t8 {l:List Nat}(hl':∀ n,n∈l->βf (h n)=β' n){v pv}(r:Rep w S β' v pv)(hn:nm0 l pv=true):Rep w S βf v (rn0 h pv):=by
 cases pv with
 |agg cs=>grind [nm0]| tup cs=>grind [nm0]| fn f cs=>grind [nm0]| ptr m off=>obtain⟨b,hβ,rfl⟩:=kC r;exact .ptr (by grind [vE,nm0])
 |mpv m=>obtain⟨b,hβ,rfl⟩:=nH r;exact .mpv (by grind [vE,nm0])
 |aptr m s i off=>obtain⟨b,hβ,rfl⟩:=kP r;exact .aptr (by grind [vE,nm0])
 |osl m s i len =>
  have e:=hl' _ (vE (by simpa only [nm0] using hn));rcases qK r with⟨hn,ho,hl,aa,rfl⟩|⟨b,cap,vs,T,hβ,hlc,hw,hsz,rfl⟩;{exact .osl0 (by grind) ho hl};{exact .osl (by grind) hlc hw hsz}
 |nil=>rw[fL r];exact .nil| dptr cs o=>obtain⟨b,o',vals,hS,rfl,hf,hc,hr⟩:=aR r;exact .dptr vals hS hf hc hr
 |nilf=>cases r with|c hf h=>cases hf|nilf=>exact .nilf
 |nilp=>cases r with|c hf h=>cases hf|nilp=>exact .nilp
 |emp=>obtain⟨a,hv⟩:=eY r;subst hv;exact .emp a
 |_=>exact .c rfl (zD4 r rfl)
theorem zD6 {l:List Nat}(hl':∀ n,n∈l->βf (h n)=β' n){v pv}(r:Rep w S β' v pv)(hn:nm1 l pv=true):Rep w S βf v (rn1 h pv):=by
 cases pv with
 |agg cs =>
  obtain⟨vs,rfl,h1,h2⟩:=qL r;exact .agg (by grind [zL]) fun j hj=>by rw[zL] at hj;rw[yJ _ rfl];grind [t8,wU,nm1]
 |tup cs =>
  obtain⟨vs,rfl,h1,h2⟩:=fK r;exact .tup (by grind [zL]) fun j hj=>by rw[zL] at hj;rw[yJ _ rfl];grind [t8,wU,nm1]
 |fn f cs =>
  obtain⟨vs,rfl,h1,h2⟩:=gM r;exact .fn (by grind [zL]) fun j hj=>by rw[zL] at hj;rw[yJ _ rfl];grind [t8,wU,nm1]
 |_=>exact t8 hl' r hn
theorem zHS {l:List Nat}(hl':∀ n,n∈l->βf (h n)=β' n){v pv}(r:Rep w S β' v pv)(hn:nmIn l pv=true):Rep w S βf v (ren h pv):=by
 cases pv with
 |agg cs =>
  obtain⟨vs,rfl,h1,h2⟩:=qL r;exact .agg (by grind [zL]) fun j hj=>by rw[zL] at hj;rw[yJ _ rfl];grind [zD6,wU,nmIn]
 |tup cs =>
  obtain⟨vs,rfl,h1,h2⟩:=fK r;exact .tup (by grind [zL]) fun j hj=>by rw[zL] at hj;rw[yJ _ rfl];grind [zD6,wU,nmIn]
 |fn f cs =>
  obtain⟨vs,rfl,h1,h2⟩:=gM r;exact .fn (by grind [zL]) fun j hj=>by rw[zL] at hj;rw[yJ _ rfl];grind [zD6,wU,nmIn]
 |_=>exact t8 hl' r hn
theorem zFT (n:Nat):∀ {cs:List PV},yR iA cs=true->wD n cs=true
 |[],_=>rfl| c::cs,h=>by simp only[yR,yT] at h;simp only[wD,yR,yT];exact⟨by cases c <;> simp_all [iA,qW,xS,rf0],zFT n h.2⟩
theorem zA3 {n:Nat}(hn:n<1000000):∀ {l:List (Nat×Obj')},(∀ m o,(m,o)∈l->m≠n/\fZ n o)->xH n l=true
 |[],_=>by grind [xH,nlt]| (m,o1)::r,h=>by
  (have h1:=h m _ xM;have h2:=zA3 hn (l:=r) fun m o hm=>h m o (xN _ hm);have e:(!(nqb m n))=true:=by grind [nbeq]);cases o1 with
  |box cs=>simp only[xH,yT];exact⟨⟨e,h1.2⟩,h2⟩| arr s els=>simp only[xH,yT];grind| log s els=>simp only[xH,yT];grind| lent s els=>simp only[xH,yT];grind| mp t k=>simp only[xH,yT];grind| mat s rows hs=>simp only[xH,yT];exact⟨⟨e,h1.2⟩,h2⟩
theorem zDY:∀ (l:List Nat) {v pv},Rep w S β v pv->Rep w S β v (cJ l pv)
 |[],v,pv,h=>h| n::r,v,pv,h=>zDY r (zC6 h)
theorem eN:∀ (l:List Nat),cJ l .any=.any
 |[]=>rfl| n::r=>eN r
theorem zEC:∀ {l:List Nat} {objs:List (Nat×Obj')} {m:Nat} {o:Obj'},(m,o)∈j9 l objs->(m,o)∈objs/\m∉l
 |[],objs,m,o,h=>⟨h,by simp⟩| n::r,objs,m,o,h=>by obtain⟨h1,h2⟩:=zEC (l:=r) h;grind [wT]
theorem zEN:∀ (l:List Nat) (objs:List (Nat×Obj')),((j9 l objs).map Prod.fst).Sublist (objs.map Prod.fst)
 |[],objs=>List.Sublist.refl _| n::r,objs=>(zEN r _).trans (mP _ _)
theorem zF8:∀ {l:List Nat} {objs:List (Nat×Obj')} {m:Nat} {o:Obj'},(m,o)∈objs->m∉l->(m,o)∈j9 l objs
 |[],objs,m,o,h,_=>h| n::r,objs,m,o,h,hn=>by simp only[yI,not_or] at hn;exact zF8 (l:=r) (rT h hn.1) hn.2
theorem kD:∀ {l:List (Nat×Obj')} {m:Nat} {x:Obj'},(m,x)∈z5 h l↔∃ n o,(n,o)∈l/\m=h n/\x=xY (ren h) o
 |[],m,x=>by simp[z5]| (n,y)::r,m,x=>by simp only[z5,yI,kD (l:=r)];constructor;{rintro (e|⟨k,o,hk,e1,e2⟩);{cases e;exact⟨n,y,.inl rfl,rfl,rfl⟩};grind};grind
theorem lO:∀ (l k:List (Nat×Obj')),z5 h (l++k)=z5 h l++z5 h k
 |[],k=>rfl| (n,x)::r,k=>by simp[z5,lO r k]
theorem dN:∀ (l:List (Nat×Obj')),(z5 h l).map Prod.fst=(l.map Prod.fst).map h
 |[]=>rfl| (n,x)::r=>by simp[z5,dN r]
theorem mN:∀ {l objs:List (Nat×Obj')},kF h objs l->∀ {n o},(n,o)∈l->(h n,xY (ren h) o)∈objs/\cR o=true
 |(m,x)::r,objs,H,n,o,hm=>by simp only[yI] at hm;rcases hm with hm|hm;{cases hm;exact⟨y5 H.1.1,H.1.2⟩};{exact mN H.2 hm}
theorem zCG {L:List Nat}:∀ {l:List (Nat×Obj')},pM L l=true->∀ {n o},(n,o)∈l->cR o=true/\nmOb L o=true
 |(m,x)::r,H,n,o,hm=>by simp only[pM,yT] at H;simp only[yI] at hm;rcases hm with hm|hm;{grind};{exact zCG H.2 hm}
theorem zEQ {p:PV->Bool}:∀ {hs:List (PV×(Unit->Nat))},allH p hs=true->∀ {v k},(v,k)∈hs->p v=true
 |(u,j)::r,H,v,k,hm=>by simp only[allH,yT] at H;rcases yI.1 hm with hm|hm;{grind};{exact zEQ H.2 hm}
theorem zOB {n:Nat}{o:Obj'}(ho:cR o=true)(hat:ObjAt w S β (h n) (xY (ren h) o)):ObjAt w S (β.ren h) n o:=by
 cases o with
 |box cs =>
  obtain⟨b,vs,T,e1,e2,e3,e4⟩:=hat;rw[zL] at e3;exact⟨b,vs,T,e1,e2,e3,fun j hj=>zIY (by have:=e4 j (by grind [zL]);rwa [yJ _ rfl] at this) (wU (by grind [cR]) j hj)⟩
 |arr s els=>exact hat| log s els=>cases ho
 |lent s els=>cases ho
 |mp t k=>exact hat| mat s rows hs =>
  obtain⟨hp,h5,h6⟩:=hat;have hr:=jF (ren h) (.mat s rows hs);refine⟨?_,fun i j b hi hj=>h5 i j b ((hr i).2 hi) ((hr j).2 hj),fun i b hi=>h6 i b ((hr i).2 hi)⟩;rcases hp with⟨e1,e2,e3⟩|⟨b,vs,T,h1,h2,h3,h4,h7⟩
  ·refine .inl ⟨e1,e2,?_⟩;cases hs with
   |nil=>rfl| cons x r=>cases e3
  {exact .inr ⟨b,vs,T,h1,h2,h3,fun v k hk=>⟨(h4 _ k (nQ (ren h) hk)).1,zIY (h4 _ k (nQ (ren h) hk)).2 (zEQ (by grind [cR]) hk)⟩,fun i hi=>h7 i ((hr i).2 hi)⟩}
theorem zRK {L:List Nat}{n:Nat}{o:Obj'}(hL:∀ k,k∈L->βf (h k)=β' k)(hn:nmOb L o=true)(h0:βf (h n)=β' n)(h1:∀ i,βf.r (h n) i=β'.r n i)(hpub:∀ i,¬jW o i)(hat:ObjAt w S β' n o):ObjAt w S βf (h n) (xY (ren h) o):=by
 cases o with
 |box cs =>
  obtain⟨b,vs,T,e1,e2,e3,e4⟩:=hat;exact⟨b,vs,T,by grind,e2,by grind [zL],fun j hj=>by rw[zL] at hj;rw[yJ _ rfl];grind [zHS,wU,nmOb]⟩
 |arr s els =>
  rcases hat with⟨e0,e⟩|⟨b,vs,T,e1,rest⟩;{exact .inl ⟨by grind,e⟩};{exact .inr ⟨b,vs,T,by grind,rest⟩}
 |log s els =>
  rcases hat with⟨e0,e⟩|⟨b,vs,T,e1,rest⟩;{exact .inl ⟨by grind,e⟩};{exact .inr ⟨b,vs,T,by grind,rest⟩}
 |lent s els =>
  obtain⟨hat,hst⟩:=hat;refine⟨?_,fun b hb i hi=>hst b (by grind) i hi⟩;rcases hat with⟨e0,e⟩|⟨b,vs,T,e1,rest⟩;{exact .inl ⟨by grind,e⟩};{exact .inr ⟨b,vs,T,by grind,rest⟩}
 |mp t k=>exact MapAt.to hat h0 fun _ _=>rfl| mat s rows hs =>
  obtain⟨hp,h5,h6⟩:=hat;have hr:=jF (ren h) (.mat s rows hs);refine⟨?_,fun i j b hi hj e1 e2=>h5 i j b ((hr i).1 hi) ((hr j).1 hj) (by grind) (by grind),fun i b hi e1=>by rw[h0];exact h6 i b ((hr i).1 hi) (by grind)⟩;rcases hp with⟨e1,e2,e3⟩|⟨b,vs,T,g1,g2,g3,g4,g7⟩;{subst e3;exact .inl ⟨by grind,e2,rfl⟩};{refine .inr ⟨b,vs,T,by grind,g2,g3,fun v k hk=>?_,fun i hi=>by rw[h1];exact g7 i ((hr i).1 hi)⟩;obtain⟨v',hk',rfl⟩:=oJ _ hk;grind [zHS,zEQ,nmOb]}
theorem zRJ {o:Obj'}(hc:cR o=true){i:Nat}:¬jW o i:=by
 cases o with
 |box cs=>exact id| arr s els=>exact id| log s els=>cases hc
 |lent s els=>cases hc
 |mp t k=>exact id| mat s rows hs=>exact id
theorem sS {n:Nat}{o:Obj'}{b:Nat}:Own (β.ren h) n o b↔Own β (h n) (xY (ren h) o) b:=by constructor;{rintro (e|⟨i,h1,h2⟩);{exact .inl e};{exact .inr ⟨i,(jF _ o i).2 h1,h2⟩}};{rintro (e|⟨i,h1,h2⟩);{exact .inl e};{exact .inr ⟨i,(jF _ o i).1 h1,h2⟩}}
theorem zBA {ps:PS}:∀ {l:List (Nat×Obj')},nX h ps l=true->∀ {n o},(n,o)∈l->yH (h n) ps=true
 |(m,x)::r,H,n,o,hm=>by simp only[nX,yT] at H;simp only[yI] at hm;rcases hm with hm|hm;{grind};{exact zBA H.2 hm}
theorem zEA:∀ {l:List (Nat×Obj')} {n:Nat},n∈mC l->∃ o,(n,o)∈l
 |(m,x)::r,n,hm=>by simp only[mC,yI] at hm;rcases hm with hm|hm;{grind};{obtain⟨o,ho⟩:=zEA hm;grind}
theorem zOM:∀ {l:List Nat},(l.map h).Nodup->∀ {n m},n∈l->m∈l->h n=h m->n=m
 |x::r,hnd,n,m,hn,hm,e=>by simp only[kA,zC3] at hnd;simp only[yI] at hn hm;rcases hn with rfl|hn;{grind};{rcases hm with rfl|hm;{grind};{exact zOM hnd.2 hn hm e}}
theorem nK {l:List (Nat×Obj')}(hnd:((z5 h l).map Prod.fst).Nodup){n m:Nat}{o o':Obj'}(hn:(n,o)∈l)(hm:(m,o')∈l)(e:h n=h m):n=m:=by rw[dN] at hnd;have h1:n∈l.map Prod.fst:=y8.2 ⟨_,hn,rfl⟩;have h2:m∈l.map Prod.fst:=y8.2 ⟨_,hm,rfl⟩;grind [zOM]
section
variable {L:List Nat}
theorem Rep.free0 (hL:∀ m,m∉L->βf m=β m){v pv}(r:Rep w S β v pv)(hf:∀ d,d∈L->rf0 d pv=true):Rep w S βf v pv:=by
 have key:∀ m,(∀ d,d∈L->(!(nqb m d))=true)->βf m=β m:=fun m hm=>hL m fun hin=>by have:=hm m hin;simp_all
 cases r with
 |c hc h=>exact .c hc h| nil=>exact .nil| agg hl h =>
  cases L with
  |nil=>exact (by have e:∀ m,βf m=β m:=fun m=>hL m (by simp);exact .agg hl fun j hj=>(h j hj).place e)| cons d r=>grind [List.mem_cons_self,rf0]
 |tup hl h =>
  cases L with
  |nil=>exact (by have e:∀ m,βf m=β m:=fun m=>hL m (by simp);exact .tup hl fun j hj=>(h j hj).place e)| cons d r=>grind [List.mem_cons_self,rf0]
 |fn hl h =>
  cases L with
  |nil=>exact (by have e:∀ m,βf m=β m:=fun m=>hL m (by simp);exact .fn hl fun j hj=>(h j hj).place e)| cons d r=>grind [List.mem_cons_self,rf0]
 |ptr hβ=>exact .ptr (by grind [rf0])| aptr hβ=>exact .aptr (by grind [rf0])| dptr vals hSb hf' hc hr=>exact .dptr vals hSb hf' hc hr| osl hβ hlc hb hsz=>exact .osl (by grind [rf0]) hlc hb hsz| nilf=>exact .nilf| nilp=>exact .nilp| mpv hβ=>exact .mpv (by grind [rf0])| emp a=>exact .emp a| osl0 hβ ho hl=>exact .osl0 (by grind [rf0]) ho hl
theorem dV {p:Nat->PV->Bool}(hp:∀ d,p d .any=true){cs:List PV}(hf:∀ d,d∈L->yR (p d) cs=true)(j:Nat):∀ d,d∈L->p d (cs.getD j .any)=true:=fun d hd=>xR (hp d) (hf d hd) j
theorem Rep.free1 (hL:∀ m,m∉L->βf m=β m){v pv}(r:Rep w S β v pv)(hf:∀ d,d∈L->rf1 d pv=true):Rep w S βf v pv:=by
 cases r with
 |agg hl h=>exact .agg hl fun j hj=>(h j hj).free0 hL (dV (fun _=>rfl) (fun d hd=>by grind [rf1]) j)| tup hl h=>exact .tup hl fun j hj=>(h j hj).free0 hL (dV (fun _=>rfl) (fun d hd=>by grind [rf1]) j)| fn hl h=>exact .fn hl fun j hj=>(h j hj).free0 hL (dV (fun _=>rfl) (fun d hd=>by grind [rf1]) j)| c hc h=>exact .c hc h| nil=>exact .nil| ptr hβ=>exact (Rep.ptr hβ).free0 hL hf| aptr hβ=>exact (Rep.aptr hβ).free0 hL hf| dptr vals hSb hf' hc hr=>exact .dptr vals hSb hf' hc hr| osl hβ hlc hb hsz=>exact (Rep.osl hβ hlc hb hsz).free0 hL hf| nilf=>exact .nilf| nilp=>exact .nilp| mpv hβ=>exact (Rep.mpv hβ).free0 hL hf| emp a=>exact .emp a| osl0 hβ ho hl=>exact (Rep.osl0 hβ ho hl).free0 hL hf
theorem Rep.free (hL:∀ m,m∉L->βf m=β m){v pv}(r:Rep w S β v pv)(hf:∀ d,d∈L->xS d pv=true):Rep w S βf v pv:=by
 cases r with
 |agg hl h=>exact .agg hl fun j hj=>(h j hj).free1 hL (dV (fun _=>rfl) (fun d hd=>by grind [xS]) j)| tup hl h=>exact .tup hl fun j hj=>(h j hj).free1 hL (dV (fun _=>rfl) (fun d hd=>by grind [xS]) j)| fn hl h=>exact .fn hl fun j hj=>(h j hj).free1 hL (dV (fun _=>rfl) (fun d hd=>by grind [xS]) j)| c hc h=>exact .c hc h| nil=>exact .nil| ptr hβ=>exact (Rep.ptr hβ).free0 hL hf| aptr hβ=>exact (Rep.aptr hβ).free0 hL hf| dptr vals hSb hf' hc hr=>exact .dptr vals hSb hf' hc hr| osl hβ hlc hb hsz=>exact (Rep.osl hβ hlc hb hsz).free0 hL hf| nilf=>exact .nilf| nilp=>exact .nilp| mpv hβ=>exact (Rep.mpv hβ).free0 hL hf| emp a=>exact .emp a| osl0 hβ ho hl=>exact (Rep.osl0 hβ ho hl).free0 hL hf
theorem ObjAt.free {m:Nat}{o:Obj'}(hL:∀ m,m∉L->βf m=β m)(hm:m∉L)(hr:∀ i,βf.r m i=β.r m i)(hf:∀ d,d∈L->fZ d o)(hat:ObjAt w S β m o):ObjAt w S βf m o:=by
 have e:=hL m hm;have hrow:∀ {s els},RowAt w S β m s els->RowAt w S βf m s els:=fun h=>by rcases h with⟨e0,e1⟩|⟨b,vs,T,e1,rest⟩;{exact .inl ⟨by grind,e1⟩};{exact .inr ⟨b,vs,T,by grind,rest⟩}
 cases o with
 |box cs =>
  obtain⟨b,vs,T,e1,e2,e3,e4⟩:=hat;exact⟨b,vs,T,by grind,e2,e3,fun j hj=>(e4 j hj).free hL (dV (p:=xS) (fun _=>rfl) (fun d hd=>hf d hd) j)⟩
 |arr s els=>exact hrow hat| log s els=>exact hrow hat| lent s els=>exact⟨hrow hat.1,fun b hb i hi=>hat.2 b (by grind) i hi⟩| mp t k=>exact MapAt.to hat e fun _ _=>rfl| mat s rows hs =>
  obtain⟨hp,h5,h6⟩:=hat;refine⟨?_,fun i j b hi hj e1 e2=>h5 i j b hi hj (by grind) (by grind),fun i b hi e1=>by grind⟩;rcases hp with⟨e1,e2,e3⟩|⟨b,vs,T,g1,g2,g3,g4,g7⟩;{grind};{exact .inr ⟨b,vs,T,by grind,g2,g3,fun v k hk=>⟨(g4 v k hk).1,(g4 v k hk).2.free hL fun d hd=>bX (hf d hd) hk⟩,fun i hi=>by grind⟩}
end
theorem zF7:∀ {k l:List (Nat×Obj')} {m:Nat} {o:Obj'},(l.map Prod.fst).Nodup->(∀ n x,(n,x)∈k->h n∈l.map Prod.fst)->((z5 h k).map Prod.fst).Nodup->(m,o)∈sP h l k ->(∃ n o',(n,o')∈k/\m=h n/\o=xY (ren h) o')\/((m,o)∈l/\m∉(z5 h k).map Prod.fst)
 |[],l,m,o,hnd,hin,hk,hm=>.inr ⟨hm,by simp[z5]⟩| (n,x)::r,l,m,o,hnd,hin,hk,hm=>by have hn:=hin n x xM;simp only[z5,kA,zC3] at hk;simp only[sP] at hm;have hnm:(setO l (h n) (xY (ren h) x)).map Prod.fst=l.map Prod.fst:=v8 hn;rcases zF7 (k:=r) (by grind) (fun k y hk=>by grind) hk.2 hm with⟨k,y,h1,h2⟩|⟨h1,h2⟩;{grind};{rcases xJ hnd hn h1 with⟨rfl,rfl⟩|⟨h3,h4⟩;{grind};{exact .inr ⟨h4,by simp only[z5,kA,yI,not_or];grind⟩}}
theorem zA7:∀ {k l:List (Nat×Obj')},(∀ n x,(n,x)∈k->h n∈l.map Prod.fst)->(sP h l k).map Prod.fst=l.map Prod.fst
 |[],l,_=>rfl| (n,x)::r,l,hin=>by have hn:=hin n x xM;have hnm:(setO l (h n) (xY (ren h) x)).map Prod.fst=l.map Prod.fst:=v8 hn;simp only[sP];rw[zA7 (k:=r) (fun k y hk=>by grind),hnm]
theorem zDD {l k:List (Nat×Obj')}(e:l.map Prod.fst=k.map Prod.fst){n:Nat}{o:Obj'}(hm:(n,o)∈l):∃ o',(n,o')∈k:=by
 have h1:n∈k.map Prod.fst:=by grind
 grind
theorem zF4 {f:PV->PV}{o:Obj'}(hc:cR o=true){i:Nat}:¬jW (xY f o) i:=by
 cases o with
 |box cs=>exact id| arr s els=>exact id| log s els=>cases hc
 |lent s els=>cases hc
 |mp t k=>exact id| mat s rows hs=>exact id
theorem ObjAt.map {f:PV->PV}{m:Nat}{o:Obj'}(hf:f .any=.any)(hr:∀ v x,Rep w S β v x->Rep w S β v (f x))(h:ObjAt w S β m o):ObjAt w S β m (xY f o):=by
 cases o with
 |box cs =>
  obtain⟨b,vs,T,e1,e2,e3,e4⟩:=h;exact⟨b,vs,T,e1,e2,by grind [zL],fun j hj=>by grind [zL,yJ]⟩
 |arr s els=>exact h| log s els=>exact h| lent s els=>exact h| mp t k=>exact h| mat s rows hs=>exact MatAt.map h (fun _ _ h=>h) fun v x k _ hv=>hr v x hv
theorem oA {f:PV->PV}{n:Nat}(hf:∀ v,xS n (f v)=true):∀ hs:List (PV×(Unit->Nat)),aT n (j7 f hs)=true
 |[]=>rfl| (v,k)::r=>by simp only[j7,aT,hf,oA hf r];rfl
theorem zDS {c:PV}(hc:iA c=true):ren h c=c/\lv c=true/\∀ l,nmIn l c=true:=by cases c <;> simp[iA,qW] at hc <;> exact⟨rfl,rfl,fun _=>rfl⟩
theorem zCS {o:Obj'}(hc:pY o=true):xY (ren h) o=o:=by
 cases o with
 |box cs =>
  show Obj'.box (vG (ren h) cs)=_;have:∀ l:List PV,yR iA l=true->vG (ren h) l=l:=by
   intro l;induction l with
   |nil=>intro _;rfl
   |cons c r ih=>intro hl;simp only[yR,yT] at hl;grind [vG,zDS]
  rw[this cs hc]
 |mat s rows hs =>
  cases hs with
  |nil=>rfl| cons x r=>cases hc
 |_=>rfl
theorem zBC {o:Obj'}(hc:pY o=true):cR o=true:=by
 cases o with
 |box cs =>
  have:∀ l:List PV,yR iA l=true->yR lv l=true:=by
   intro l;induction l with
   |nil=>intro _;rfl
   |cons c r ih=>intro hl;simp only[yR,yT] at hl ⊢;exact⟨(zDS (h:=id) hl.1).2.1,ih hl.2⟩
  exact this cs hc
 |arr s els=>rfl| log s els=>cases hc
 |lent s els=>cases hc
 |mp t k=>rfl| mat s rows hs =>
  cases hs with
  |nil=>rfl| cons x r=>cases hc
theorem zP5 {o:Obj'}{l:List Nat}(hc:pY o=true):nmOb l o=true:=by
 cases o with
 |box cs =>
  have:∀ k:List PV,yR iA k=true->yR (nmIn l) k=true:=by
   intro k;induction k with
   |nil=>intro _;rfl
   |cons c r ih=>intro hl;simp only[yR,yT] at hl ⊢;exact⟨(zDS (h:=id) hl.1).2.2 l,ih hl.2⟩
  exact this cs hc
 |mat s rows hs =>
  cases hs with
  |nil=>rfl| cons x r=>cases hc
 |_=>rfl
theorem zYZ {l:List (Nat×Obj')}(hinj:∀ n o m o',(n,o)∈l->(m,o')∈l->h n=h m->n=m)(β β':Bm):∃ βf:Bm,(∀ n o,(n,o)∈l->βf (h n)=β' n)/\(∀ n o i,(n,o)∈l->βf.r (h n) i=β'.r n i) /\ (∀ m,(∀ n o,(n,o)∈l->h n≠m)->βf m=β m)/\∀ m i,(∀ n o,(n,o)∈l->h n≠m)->βf.r m i=β.r m i:=by
 classical
 refine⟨⟨fun m=>if e:∃ n o,(n,o)∈l/\h n=m then β' (Classical.choose e) else β m,fun m i=>if e:∃ n o,(n,o)∈l/\h n=m then β'.r (Classical.choose e) i else β.r m i⟩,fun n o hm=>?_,fun n o i hm=>?_,fun m hno=>?_,fun m i hno=>?_⟩;{have e:∃ k o,(k,o)∈l/\h k=h n:=⟨n,o,hm,rfl⟩;grind};{have e:∃ k o,(k,o)∈l/\h k=h n:=⟨n,o,hm,rfl⟩;grind}
 all_goals grind
theorem zCU {o:Oper}{c:Call}{f:Operand}(hop:o.op=.call c)(hcl:c.callee=.value f){Km:Act->World->Prop}{Q:Exit->Act->World->Prop}(hs:Sim w0 S0 K0 N τ objs a w S β) {g:FuncId} {caps:List PV} (hf:ev τ f=.fn g caps) {cargs:List PV} {kept eaten:List (Nat×Obj')} {r:PV} {kept' made:List (Nat×Obj')} (hle:LeL (evs (ev τ) c.args.toList++caps) (renL h cargs)) (hso:Sound g cargs kept eaten r kept' made) (hobj:kF h objs (kept++eaten)) (hnd1:ndO (z5 h (kept++eaten))=true) (hnd2:ndO (kept++eaten)=true) (hclo:pM (mC (kept'++made)) (kept'++made)=true) (hnd3:ndO (z5 h made)=true) (hfr:∀ {n o},(n,o)∈made->(∀ t,xS (h n) (cJ ((z5 h eaten).map Prod.fst) (τ t))=true)/\xH (h n) (y4 (cJ ((z5 h eaten).map Prod.fst)) (j9 ((z5 h eaten).map Prod.fst) objs))=true) (hlv:yR lv cargs=true) (hlr:lv r=true) (hnm:nmIn (mC (kept'++made)) r=true) (hk:∀ w' S' β' v,Sim w0 S0 K0 N (fun t=>cJ ((z5 h eaten).map Prod.fst) (τ t)) (sP h (y4 (cJ ((z5 h eaten).map Prod.fst)) (j9 ((z5 h eaten).map Prod.fst) objs)) kept'++z5 h made) a w' S' β'->Rep w' S' β' v (ren h r)->Km (a.put o.dst v) w'):o.wp Pg a w Km Q:=by
 have hfv:=hs.eval f;rw[hf] at hfv;obtain⟨vs,hv,hl,hr⟩:=gM hfv;have hargs:=((zDF (fun x=>hs.eval x) c.args.toList).append ⟨hl,hr⟩).le hle;have hnodup1:=jN hnd1;have hmemo:∀ {n x},(n,x)∈kept++eaten->(h n,xY (ren h) x)∈objs/\cR x=true:=fun hm=>mN hobj hm;have hblk:∀ b,Blk (β.ren h) (kept++eaten) b->(∀ i,¬S b i)/\b<w.heap.size/\(w0.heap.size<=b\/K0 b):=by rintro b ⟨n,x,hm,hβ⟩;obtain⟨h1,h2⟩:=hmemo hm;have hβ':=sS.1 hβ;exact⟨fun i hS=>zF4 h2 ((hs.obj.un _ _ b h1 hβ').1 i hS),(hs.obj.un _ _ b h1 hβ').2,hs.own _ _ b h1 hβ'⟩
 have hobjs:ObjsAt w S (β.ren h) (kept++eaten):=⟨jN hnd2,fun n x hm=>zOB (hmemo hm).2 (hs.obj.at_ _ _ (hmemo hm).1),fun n x b hm hβ=>⟨fun i hS=>absurd hS ((hblk b ⟨n,x,hm,hβ⟩).1 i),(hblk b ⟨n,x,hm,hβ⟩).2.1⟩,
  fun n x m y b hm hm' hβ hβ'=>nK hnodup1 hm hm' (hs.obj.inj _ _ _ _ b (hmemo hm).1 (hmemo hm').1 (sS.1 hβ) (sS.1 hβ'))⟩
 have hlen:(renL h cargs).length=cargs.length:=zL _ _;unfold Oper.wp;rw[tZ hop hcl hv hso.isf,Oper.upon_enter];refine (hso.go w S (β.ren h) _ hs.ld.bnd hobjs (by rw[hargs.1,hlen]) (fun j hj=>zIY (by have:=hargs.2 j oM;rwa [renL,yJ _ rfl] at this) (wU hlv j hj))).mono ?_;rintro e w' ⟨v,S',β',rfl,l,hrep,ho',hnk,hβk,hmd⟩;show Km (a.put o.dst v) w';have hevo:Evo S w w':=⟨fun b i hS=>cG (l.same b (hs.ld.bnd b i hS) fun hb=>(hblk b hb).1 i hS) i,l.shape⟩;have hsub:∀ b i,S b i->S' b i:=l.subs hs.ld.bnd;have hld:Leads w0 S0 K0 w' S':=by refine⟨vD hs.ld.size l.size,l.os.trans hs.ld.os,l.tape.trans hs.ld.tape,l.output.trans hs.ld.output,fun b hb hk=>?_,fun b us U hb=>?_,l.bnd,fun b i hb hS=>hsub b i (hs.ld.sub b i hb hS),fun b i hb hk hS=>?_⟩;{have hb':=uI hb hs.ld.size;rw[l.same b hb' fun hx=>by grind];exact hs.ld.same b hb hk};{obtain⟨us',e1,e2⟩:=hs.ld.shape b us U hb;obtain⟨us'',e3,e4⟩:=l.shape b us' U e1;grind};{have hb':=uI hb hs.ld.size;exact hs.ld.old b i hb hk (l.old b i hb' (fun hx=>by grind) hS)}
 
 have hmid:∀ {m x},(m,x)∈(y4 (cJ ((z5 h eaten).map Prod.fst)) (j9 ((z5 h eaten).map Prod.fst) objs))->(∃ x',(m,x')∈objs/\x=xY (cJ ((z5 h eaten).map Prod.fst)) x')/\m∉(z5 h eaten).map Prod.fst:=by intro m x hm;obtain⟨x',h1,h2⟩:=wQ _ hm;obtain⟨h3,h4⟩:=zEC h1;grind
 have hkin:∀ n x,(n,x)∈kept->h n∈((y4 (cJ ((z5 h eaten).map Prod.fst)) (j9 ((z5 h eaten).map Prod.fst) objs))).map Prod.fst:=by
  (intro n x hm;have h1:=(hmemo (mY eaten hm)).1;have h2:h n∉(z5 h eaten).map Prod.fst:=by intro hx;obtain⟨⟨m,y⟩,h3,h4⟩:=y8.1 hx;simp only at h4;rw[lO,gE,lW] at hnodup1;exact hnodup1.2.2 (h n) (y8.2 ⟨_,kD.2 ⟨n,x,hm,rfl,rfl⟩,rfl⟩) m (y8.2 ⟨_,h3,rfl⟩) h4.symm);exact y8.2 ⟨_,rS (cJ ((z5 h eaten).map Prod.fst)) (zF8 h1 h2),rfl⟩
 have hkin':∀ n x,(n,x)∈kept'->h n∈((y4 (cJ ((z5 h eaten).map Prod.fst)) (j9 ((z5 h eaten).map Prod.fst) objs))).map Prod.fst:=by intro n x hm;obtain⟨x',h1⟩:=zDD hnk hm;grind
 have hmnd:((y4 (cJ ((z5 h eaten).map Prod.fst)) (j9 ((z5 h eaten).map Prod.fst) objs)).map Prod.fst).Nodup:=by simp only[gQ];exact (zEN _ _).nodup hs.obj.nd
 have hknd:((z5 h kept').map Prod.fst).Nodup:=by grind [dN]
 have hset:∀ {m x},(m,x)∈sP h (y4 (cJ ((z5 h eaten).map Prod.fst)) (j9 ((z5 h eaten).map Prod.fst) objs)) kept'->(∃ n o',(n,o')∈kept'/\m=h n/\x=xY (ren h) o')\/((m,x)∈(y4 (cJ ((z5 h eaten).map Prod.fst)) (j9 ((z5 h eaten).map Prod.fst) objs))/\m∉(z5 h kept').map Prod.fst) :=
  fun hm=>zF7 hmnd hkin' hknd hm
 have hβk':∀ n x,(n,x)∈kept'->β' n=β (h n):=by intro n x hm;obtain⟨x',h1⟩:=zDD hnk hm;exact hβk n x' h1
 have hnew:∀ {n o m x},(n,o)∈made->(m,x)∈(y4 (cJ ((z5 h eaten).map Prod.fst)) (j9 ((z5 h eaten).map Prod.fst) objs))->m≠h n:=fun hm hx=>(yK (hfr hm).2 hx).1;have hkm:∀ {n o m o'},(n,o)∈made->(m,o')∈kept'->h m≠h n:=fun hm hx e=>by obtain⟨⟨q,y⟩,q1,q2⟩:=y8.1 (hkin' _ _ hx);exact hnew hm q1 (by rw[<-e];exact q2)
 have hinj:∀ n o m o',(n,o)∈kept'++made->(m,o')∈kept'++made->h n=h m->n=m:=fun n o m o' hm hm' e=>by
  (rcases vX.1 hm with h1|h1 <;> rcases vX.1 hm' with h2|h2);{exact nK hknd h1 h2 e}
  {exact absurd e (hkm h2 h1)};{exact absurd e.symm (hkm h1 h2)};{exact nK (jN hnd3) h1 h2 e}
 obtain⟨βf,hf1,hf2,hf3,hf4⟩:=zYZ hinj β β';have hno:∀ {m},m∉(z5 h kept').map Prod.fst->m∉(z5 h made).map Prod.fst->∀ n o,(n,o)∈kept'++made->h n≠m:=fun h1 h2 n o hm e=>by rcases vX.1 hm with h3|h3;{exact h1 (y8.2 ⟨_,kD.2 ⟨n,o,h3,rfl,rfl⟩,e⟩)};{exact h2 (y8.2 ⟨_,kD.2 ⟨n,o,h3,rfl,rfl⟩,e⟩)}
 have hL:∀ m,m∉(z5 h made).map Prod.fst->βf m=β m:=fun m hm=>by by_cases hk:m∈(z5 h kept').map Prod.fst;{obtain⟨⟨q,y⟩,q1,q2⟩:=y8.1 hk;obtain⟨n,o,q3,q4,_⟩:=kD.1 q1;simp only at q2;rw[<-q2,q4,hf1 n o (mY made q3),hβk' n o q3]};{exact hf3 m (hno hk hm)}
 have hmn:∀ {d},d∈(z5 h made).map Prod.fst->∃ n o,(n,o)∈made/\d=h n:=fun hd=>by obtain⟨⟨q,y⟩,q1,q2⟩:=y8.1 hd;obtain⟨n,o,q3,q4,_⟩:=kD.1 q1;simp only at q2;exact⟨n,o,q3,by rw[<-q2,q4]⟩
 have hnblk:∀ {m x' b},(m,x')∈objs->m∉(z5 h eaten).map Prod.fst->m∉(z5 h kept').map Prod.fst->Own β m x' b->¬Blk (β.ren h) (kept++eaten) b:=by rintro m x' b hm hne hnk' hβ ⟨n,y,hy,hβn⟩;have heq:=hs.obj.inj _ _ _ _ b hm (hmemo hy).1 hβ (sS.1 hβn);rcases vX.1 hy with hy|hy;{rw[dN,hnk,<-dN] at hnk';exact hnk' (y8.2 ⟨_,kD.2 ⟨n,y,hy,rfl,rfl⟩,heq.symm⟩)};{exact hne (y8.2 ⟨_,kD.2 ⟨n,y,hy,rfl,rfl⟩,heq.symm⟩)}
 have hall:∀ {m x},(m,x)∈sP h (y4 (cJ ((z5 h eaten).map Prod.fst)) (j9 ((z5 h eaten).map Prod.fst) objs)) kept'++z5 h made->(∃ n o',(n,o')∈kept'++made/\m=h n/\x=xY (ren h) o')\/((m,x)∈(y4 (cJ ((z5 h eaten).map Prod.fst)) (j9 ((z5 h eaten).map Prod.fst) objs))/\m∉(z5 h kept').map Prod.fst/\m∉(z5 h made).map Prod.fst):=fun hm=>by rcases vX.1 hm with h1|h1;{rcases hset h1 with⟨n,o',h2,h3,h4⟩|⟨h2,h3⟩;{exact .inl ⟨n,o',mY made h2,h3,h4⟩};{refine .inr ⟨h2,h3,fun hd=>?_⟩;obtain⟨n,o,q1,q2⟩:=hmn hd;exact hnew q1 h2 q2}};{obtain⟨n,o',h2,h3,h4⟩:=kD.1 h1;exact .inl ⟨n,o',mX kept' h2,h3,h4⟩}
 have hownF:∀ {n o b},(n,o)∈kept'++made->Own βf (h n) (xY (ren h) o) b->Own β' n o b:=fun hm hb=>by rcases hb with hb|⟨i,h1,h2⟩;{exact .inl (by rw[<-hf1 _ _ hm];exact hb)};{exact .inr ⟨i,(jF _ _ i).1 h1,by rw[<-hf2 _ _ i hm];exact h2⟩}
 have hownO:∀ {m x b},m∉(z5 h kept').map Prod.fst->m∉(z5 h made).map Prod.fst->Own βf m x b->Own β m x b:=fun h1 h2 hb=>by rcases hb with hb|⟨i,h3,h4⟩;{exact .inl (by rw[<-hf3 _ (hno h1 h2)];exact hb)};{exact .inr ⟨i,h3,by rw[<-hf4 _ i (hno h1 h2)];exact h4⟩}
 have hsim:Sim w0 S0 K0 N (fun t=>cJ ((z5 h eaten).map Prod.fst) (τ t)) (sP h (y4 (cJ ((z5 h eaten).map Prod.fst)) (j9 ((z5 h eaten).map Prod.fst) objs)) kept'++z5 h made) a w' S' βf:=by
  refine⟨hs.dfr,hs.sz,hld,fun t=>?_,⟨?_,?_,?_,?_⟩,?_,?_⟩;{have h1:Rep w' S' β (a.tmps.getD t undef) (cJ ((z5 h eaten).map Prod.fst) (τ t)):=zDY _ ((hs.tmp t).evo hevo hsub);exact h1.free hL fun d hd=>by obtain⟨n,o,q1,rfl⟩:=hmn hd;exact (hfr q1).1 t};{rw[gE,zA7 hkin',lW];refine⟨hmnd,jN hnd3,fun x hx y hy e=>?_⟩;obtain⟨n,o,q1,q2⟩:=hmn hy;obtain⟨⟨q,z⟩,q3,q4⟩:=y8.1 hx;simp only at q4;exact hnew q1 q3 (by rw[q4,e,q2])};{intro m x hm;rcases hall hm with⟨n,o',h1,rfl,rfl⟩|⟨h1,h2,h3⟩;{obtain⟨g1,g2⟩:=zCG hclo h1;exact zRK (L:=mC (kept'++made)) (fun k hk=>by obtain⟨y,hy⟩:=zEA hk;exact hf1 k y hy) g2 (hf1 n o' h1) (fun i=>hf2 n o' i h1) (fun i=>zRJ g1) (ho'.at_ n o' h1)};{obtain⟨⟨x',h4,rfl⟩,h5⟩:=hmid h1;have hat:=((hs.obj.at_ m x' h4).evo hevo fun b hb=>l.same b (hs.obj.un _ _ b h4 hb).2 (hnblk h4 h5 h2 hb)).mono hsub;exact (hat.map (eN _) fun v x hx=>zDY _ hx).free hL h3 (fun i=>hf4 m i (hno h2 h3)) fun d hd=>by obtain⟨n,o,q1,rfl⟩:=hmn hd;exact (yK (hfr q1).2 h1).2}};{intro m x b hm hβ;rcases hall hm with⟨n,o',h1,rfl,rfl⟩|⟨h1,h2,h3⟩;{obtain⟨g1,g2⟩:=ho'.un n o' b h1 (hownF h1 hβ);exact⟨fun i hS=>rM (g1 i hS),g2⟩};{obtain⟨⟨x',h4,rfl⟩,h5⟩:=hmid h1;have hb:=uE (hownO h2 h3 hβ);obtain⟨q1,q2⟩:=hs.obj.un m x' b h4 hb;exact⟨fun i hS=>rM (q1 i (l.old b i q2 (hnblk h4 h5 h2 hb) hS)),uI q2 l.size⟩}}
  ·have cross:∀ {n o m x b},(n,o)∈kept'++made->Own β' n o b->(m,x)∈(y4 (cJ ((z5 h eaten).map Prod.fst)) (j9 ((z5 h eaten).map Prod.fst) objs))->m∉(z5 h kept').map Prod.fst->Own β m x b->False:=fun hn hb hm hk hb'=>by obtain⟨⟨x',h4,rfl⟩,h5⟩:=hmid hm;have hb'':=uE hb';rcases hmd _ _ _ hn hb with g|g;{have:=(hs.obj.un _ x' _ h4 hb'').2;omega};{exact hnblk h4 h5 hk hb'' g}
   (intro m x m' x' b hm hm' hβ hβ';rcases hall hm with⟨n,o',h1,rfl,rfl⟩|⟨h1,h2,h3⟩ <;> rcases hall hm' with⟨n',o'',h4,rfl,rfl⟩|⟨h4,h5,h6⟩);{rw[ho'.inj _ _ _ _ b h1 h4 (hownF h1 hβ) (hownF h4 hβ')]}
   {exact (cross h1 (hownF h1 hβ) h4 h5 (hownO h5 h6 hβ')).elim};{exact (cross h4 (hownF h4 hβ') h1 h2 (hownO h2 h3 hβ)).elim};{obtain⟨⟨y,h7,rfl⟩,_⟩:=hmid h1;obtain⟨⟨y',h8,rfl⟩,_⟩:=hmid h4;exact hs.obj.inj _ _ _ _ b h7 h8 (uE (hownO h2 h3 hβ)) (uE (hownO h5 h6 hβ'))}
  {intro m x b hm hβ;rcases hall hm with⟨n,o',h1,rfl,rfl⟩|⟨h1,h2,h3⟩;{rcases hmd n o' b h1 (hownF h1 hβ) with g|g;{exact .inl (vD hs.ld.size g)};{exact (hblk b g).2.2}};{obtain⟨⟨x',h4,rfl⟩,h5⟩:=hmid h1;exact hs.own m x' b h4 (uE (hownO h2 h3 hβ))}};{intro m x hm hb;rcases hall hm with⟨n,o',h1,rfl,rfl⟩|⟨h1,h2,h3⟩;{rcases vX.1 h1 with h2|h2;{obtain⟨x',h3⟩:=zDD hnk h2;rw[hf1 n o' h1,hβk' n o' h2];exact hs.keep _ _ (hmemo (mY eaten h3)).1 hb};{have:=vV (hfr h2).2;omega}};{obtain⟨⟨x',h4,rfl⟩,h5⟩:=hmid h1;rw[hf3 m (hno h2 h3)];exact hs.keep m x' h4 hb}}
 have hfin:Rep w' S' βf v (ren h r):=zHS (l:=mC (kept'++made)) (fun n hn=>by obtain⟨x,hm⟩:=zEA hn;exact hf1 n x hm) hrep hnm;exact hk _ _ _ _ hsim hfin
theorem zIQ {ps:PS}{o:Oper}{c:Call}{f:Operand}(hop:o.op=.call c)(hcl:c.callee=.value f)(hd:∀ t,o.dst=some t->t<N){K:PS->Prop}{Km:Act->World->Prop}{Q:Exit->Act->World->Prop}(hs:Sim w0 S0 K0 N (zB ps.tmps) ps.objs a w S β) {g:FuncId} {caps:List PV} (hf:ev (zB ps.tmps) f=.fn g caps) {cargs:List PV} {kept eaten:List (Nat×Obj')} {r:PV} {kept' made:List (Nat×Obj')} (hle:LeL (evs (ev (zB ps.tmps)) c.args.toList++caps) (renL h cargs)) (hso:Sound g cargs kept eaten r kept' made) (hobj:kF h ps.objs (kept++eaten)) (hnd1:ndO (z5 h (kept++eaten))=true) (hnd2:ndO (kept++eaten)=true) (hclo:pM (mC (kept'++made)) (kept'++made)=true) (hnd3:ndO (z5 h made)=true) (hfree:nX h (iG h eaten ps) made=true) (hlv:yR lv cargs=true) (hlr:lv r=true) (hnm:nmIn (mC (kept'++made)) r=true) (hK:K (put (nJ h eaten kept' made ps) o.dst (ren h r))) (hk:∀ ps' a' w' S' β',K ps'->Sim w0 S0 K0 N (zB ps'.tmps) ps'.objs a' w' S' β'->Km a' w'):o.wp Pg a w Km Q:=by
 refine zCU hop hcl hs hf hle hso hobj hnd1 hnd2 hclo hnd3 (fun hm=>?_) hlv hlr hnm fun w' S' β' v hsim hfin=>?_;{have:=zBA hfree hm;simp only[yH,iG,yT] at this;refine⟨fun t=>?_,this.2⟩;rw[<-kU _ (eN _)];grind [w9]}
 ·(have e:(fun t=>cJ ((z5 h eaten).map Prod.fst) (zB ps.tmps t))=zB (nJ h eaten kept' made ps).tmps:=by funext t;exact (kU _ (eN _) _ _).symm);rw[e] at hsim;exact hk _ _ _ _ _ hK (wO (ps:=nJ h eaten kept' made ps) hsim o.dst hd hfin)
theorem zOH:∀ (l:List PV),vG (fun v=>v) l=l
 |[]=>rfl| v::r=>by simp only[vG,zOH r]
theorem zOG:∀ (l:List (PV×(Unit->Nat))),j7 (fun v=>v) l=l
 |[]=>rfl| (v,k)::r=>by simp only[j7,zOG r]
theorem zOE:∀ (l:List (Nat×Obj')),y4 (fun v=>v) l=l
 |[]=>rfl| (n,o)::r=>by have:=zOE r;cases o <;> simp only[y4,zOH,zOG,this]
theorem zFW:∀ {l:List (Nat×Obj')} {n:Nat} {o:Obj'},yG l n=some o->setO l n o=l
 |[],n,o,h=>by cases h
 |(u,x)::r,n,o,h=>by
  simp only[yG] at h;simp only[setO];cases hu:nqb u n with
  |true =>
   simp_all
  |false =>
   rw[hu] at h;simp only;rw[zFW h]
theorem zCD:∀ {kept l:List (Nat×Obj')},kF h l kept->sP h l kept=l
 |[],l,_=>rfl| (n,o)::r,l,H=>by simp only[sP];rw[zFW H.1.1];exact zCD H.2
theorem zIR {o:Oper}{c:Call}{f:Operand}(hop:o.op=.call c)(hcl:c.callee=.value f){Km:Act->World->Prop}{Q:Exit->Act->World->Prop}(hs:Sim w0 S0 K0 N τ objs a w S β) {g:FuncId} {caps:List PV} (hf:ev τ f=.fn g caps) {cargs:List PV} {kept:List (Nat×Obj')} {r:PV} (hle:LeL (evs (ev τ) c.args.toList++caps) (renL h cargs)) (hso:Sound g cargs kept [] r kept []) (hobj:kF h objs kept) (hnd1:ndO (z5 h kept)=true) (hnd2:ndO kept=true) (hclo:pM (mC kept) kept=true) (hlv:yR lv cargs=true) (hlr:lv r=true) (hnm:nmIn (mC kept) r=true) (hk:∀ w' S' β' v,Sim w0 S0 K0 N τ objs a w' S' β'->Rep w' S' β' v (ren h r)->Km (a.put o.dst v) w'):o.wp Pg a w Km Q:=by
 refine zCU (eaten:=[]) (made:=[]) hop hcl hs hf hle hso (by grind) (by grind) (by grind) (by grind) rfl (fun hm=>by cases hm) hlv hlr (by grind) fun w' S' β' v hsim hfin=>?_;have e:sP h (y4 (cJ ((z5 h []).map Prod.fst)) (j9 ((z5 h []).map Prod.fst) objs)) kept++z5 h []=objs:=by show sP h (y4 (fun v=>v) objs) kept++[]=objs;rw[uU,zOE,zCD hobj]
 rw[e] at hsim;exact hk _ _ _ _ hsim hfin
end
end Go.Proofs.YtaeaffgjdcigoaaGreat
