/- A part of the proof: PmM. -/
import Derived.Test.YtfainocfaddbdaaGreatU09
set_option linter.all false
namespace Go.Proofs.YtfainocfaddbdaaGreat
open Go
section
variable {w0:World} {S0:Nat->Nat->Prop} {K0:Nat->Prop} {N:Cx} {τ:Nat->PV} {objs:List (Nat×Obj')} {a:Act} {w w':World} {S S':Nat->Nat->Prop} {β β' βf:Bm} {h:Nat->Nat}
theorem eC {v pv}(r:Rep w S β v (rn0 h pv))(hl:lv0 pv=true):Rep w S (β.ren h) v pv:=by
 cases pv with
 |agg cs=>simp[lv0] at hl| tup cs=>simp[lv0] at hl| fn f cs=>simp[lv0] at hl| ptr m off=>obtain⟨b,hβ,rfl⟩:=k9 r;exact .ptr hβ
 |aptr m s i off=>obtain⟨b,hβ,rfl⟩:=gD r;exact .aptr hβ
 |osl m s i len =>
  rcases uV r with⟨hn,ho,hl,aa,rfl⟩|⟨b,cap,vs,T,hβ,hlc,hw,hsz,rfl⟩;{exact .osl0 hn ho hl};{exact .osl hβ hlc hw hsz}
 |nil=>rw[gQ r];exact .nil| dptr cs o=>obtain⟨b,o',vals,hS,rfl,hf,hc,hr⟩:=aA r;exact .dptr vals hS hf hc hr
 |nilf=>cases r with|c hf h=>cases hf|nilf=>exact .nilf
 |nilp=>cases r with|c hf h=>cases hf|nilp=>exact .nilp
 |emp=>obtain⟨a,hv⟩:=eB r;subst hv;exact .emp a
 |_=>exact .c rfl (zDP r rfl)
theorem zHD {v pv}(r:Rep w S β v (rn1 h pv))(hl:lv1 pv=true):Rep w S (β.ren h) v pv:=by
 cases pv with
 |agg cs =>
  obtain⟨vs,rfl,h1,h2⟩:=kJ r;rw[zL] at h1;exact .agg h1 fun j hj=>eC (by have:=h2 j (by rw[zL];exact hj);rwa [yH _ rfl] at this) (wV (by simpa only [lv1] using hl) j hj)
 |tup cs =>
  obtain⟨vs,rfl,h1,h2⟩:=fT r;rw[zL] at h1;exact .tup h1 fun j hj=>eC (by have:=h2 j (by rw[zL];exact hj);rwa [yH _ rfl] at this) (wV (by simpa only [lv1] using hl) j hj)
 |fn f cs =>
  obtain⟨vs,rfl,h1,h2⟩:=fV r;rw[zL] at h1;exact .fn h1 fun j hj=>eC (by have:=h2 j (by rw[zL];exact hj);rwa [yH _ rfl] at this) (wV (by simpa only [lv1] using hl) j hj)
 |_=>exact eC r rfl
theorem zIJ {v pv}(r:Rep w S β v (ren h pv))(hl:lv pv=true):Rep w S (β.ren h) v pv:=by
 cases pv with
 |agg cs =>
  obtain⟨vs,rfl,h1,h2⟩:=kJ r;rw[zL] at h1;exact .agg h1 fun j hj=>zHD (by have:=h2 j (by rw[zL];exact hj);rwa [yH _ rfl] at this) (wV (by simpa only [lv] using hl) j hj)
 |tup cs =>
  obtain⟨vs,rfl,h1,h2⟩:=fT r;rw[zL] at h1;exact .tup h1 fun j hj=>zHD (by have:=h2 j (by rw[zL];exact hj);rwa [yH _ rfl] at this) (wV (by simpa only [lv] using hl) j hj)
 |fn f cs =>
  obtain⟨vs,rfl,h1,h2⟩:=fV r;rw[zL] at h1;exact .fn h1 fun j hj=>zHD (by have:=h2 j (by rw[zL];exact hj);rwa [yH _ rfl] at this) (wV (by simpa only [lv] using hl) j hj)
 |_=>exact eC r rfl
theorem tY {l:List Nat}(hl':∀ n,n∈l->βf (h n)=β' n){v pv}(r:Rep w S β' v pv)(hn:nm0 l pv=true):Rep w S βf v (rn0 h pv):=by
 cases pv with
 |agg cs=>simp[nm0] at hn| tup cs=>simp[nm0] at hn| fn f cs=>simp[nm0] at hn| ptr m off=>obtain⟨b,hβ,rfl⟩:=k9 r;exact .ptr (by rw[hl' _ (v7 (by simpa only [nm0] using hn))];exact hβ)
 |aptr m s i off=>obtain⟨b,hβ,rfl⟩:=gD r;exact .aptr (by rw[hl' _ (v7 (by simpa only [nm0] using hn))];exact hβ)
 |osl m s i len =>
  have e:=hl' _ (v7 (by simpa only [nm0] using hn));rcases uV r with⟨hn,ho,hl,aa,rfl⟩|⟨b,cap,vs,T,hβ,hlc,hw,hsz,rfl⟩;{exact .osl0 (by rw[e];exact hn) ho hl};{exact .osl (by rw[e];exact hβ) hlc hw hsz}
 |nil=>rw[gQ r];exact .nil| dptr cs o=>obtain⟨b,o',vals,hS,rfl,hf,hc,hr⟩:=aA r;exact .dptr vals hS hf hc hr
 |nilf=>cases r with|c hf h=>cases hf|nilf=>exact .nilf
 |nilp=>cases r with|c hf h=>cases hf|nilp=>exact .nilp
 |emp=>obtain⟨a,hv⟩:=eB r;subst hv;exact .emp a
 |_=>exact .c rfl (zDP r rfl)
theorem zDR {l:List Nat}(hl':∀ n,n∈l->βf (h n)=β' n){v pv}(r:Rep w S β' v pv)(hn:nm1 l pv=true):Rep w S βf v (rn1 h pv):=by
 cases pv with
 |agg cs =>
  obtain⟨vs,rfl,h1,h2⟩:=kJ r;exact .agg (by rw[zL];exact h1) fun j hj=>by rw[zL] at hj;rw[yH _ rfl];exact tY hl' (h2 j hj) (wV (by simpa only [nm1] using hn) j hj)
 |tup cs =>
  obtain⟨vs,rfl,h1,h2⟩:=fT r;exact .tup (by rw[zL];exact h1) fun j hj=>by rw[zL] at hj;rw[yH _ rfl];exact tY hl' (h2 j hj) (wV (by simpa only [nm1] using hn) j hj)
 |fn f cs =>
  obtain⟨vs,rfl,h1,h2⟩:=fV r;exact .fn (by rw[zL];exact h1) fun j hj=>by rw[zL] at hj;rw[yH _ rfl];exact tY hl' (h2 j hj) (wV (by simpa only [nm1] using hn) j hj)
 |_=>exact tY hl' r hn
theorem zHC {l:List Nat}(hl':∀ n,n∈l->βf (h n)=β' n){v pv}(r:Rep w S β' v pv)(hn:nmIn l pv=true):Rep w S βf v (ren h pv):=by
 cases pv with
 |agg cs =>
  obtain⟨vs,rfl,h1,h2⟩:=kJ r;exact .agg (by rw[zL];exact h1) fun j hj=>by rw[zL] at hj;rw[yH _ rfl];exact zDR hl' (h2 j hj) (wV (by simpa only [nmIn] using hn) j hj)
 |tup cs =>
  obtain⟨vs,rfl,h1,h2⟩:=fT r;exact .tup (by rw[zL];exact h1) fun j hj=>by rw[zL] at hj;rw[yH _ rfl];exact zDR hl' (h2 j hj) (wV (by simpa only [nmIn] using hn) j hj)
 |fn f cs =>
  obtain⟨vs,rfl,h1,h2⟩:=fV r;exact .fn (by rw[zL];exact h1) fun j hj=>by rw[zL] at hj;rw[yH _ rfl];exact zDR hl' (h2 j hj) (wV (by simpa only [nmIn] using hn) j hj)
 |_=>exact tY hl' r hn
theorem zFP (n:Nat):∀ {cs:List PV},yV lM cs=true->w6 n cs=true
 |[],_=>rfl| c::cs,h=>by simp only[yV,y9] at h;simp only[w6,yV,y9];exact⟨by cases c <;> simp_all [lM,jN,xV,rf0],zFP n h.2⟩
theorem zAY {n:Nat}(hn:n<1000000):∀ {l:List (Nat×Obj')},(∀ m o,(m,o)∈l->m≠n/\f6 n o)->x5 n l=true
 |[],_=>by simp[x5,nlt];omega| (m,o1)::r,h=>by
  (have h1:=h m _ xD;have h2:=zAY hn (l:=r) fun m o hm=>h m o (xI _ hm);have e:(!(nqb m n))=true:=by rw[nbeq h1.1];rfl);cases o1 with
  |box cs=>simp only[x5,y9];exact⟨⟨e,h1.2⟩,h2⟩| arr s els=>simp only[x5,y9];exact⟨e,h2⟩| log s els=>simp only[x5,y9];exact⟨e,h2⟩| lent s els=>simp only[x5,y9];exact⟨e,h2⟩| mat s rows hs=>simp only[x5,y9];exact⟨⟨e,h1.2⟩,h2⟩
theorem zDI:∀ (l:List Nat) {v pv},Rep w S β v pv->Rep w S β v (cG l pv)
 |[],v,pv,h=>h| n::r,v,pv,h=>zDI r (zCQ h)
theorem i5:∀ (l:List Nat),cG l .any=.any
 |[]=>rfl| n::r=>i5 r
theorem zDY:∀ {l:List Nat} {objs:List (Nat×Obj')} {m:Nat} {o:Obj'},(m,o)∈hH l objs->(m,o)∈objs/\m∉l
 |[],objs,m,o,h=>⟨h,by simp⟩| n::r,objs,m,o,h=>by obtain⟨h1,h2⟩:=zDY (l:=r) h;obtain⟨h3,h4⟩:=wU h1;exact⟨h3,by simp[h2,h4]⟩
theorem zEA:∀ (l:List Nat) (objs:List (Nat×Obj')),((hH l objs).map Prod.fst).Sublist (objs.map Prod.fst)
 |[],objs=>List.Sublist.refl _| n::r,objs=>(zEA r _).trans (mI _ _)
theorem zF0:∀ {l:List Nat} {objs:List (Nat×Obj')} {m:Nat} {o:Obj'},(m,o)∈objs->m∉l->(m,o)∈hH l objs
 |[],objs,m,o,h,_=>h| n::r,objs,m,o,h,hn=>by simp only[z9,not_or] at hn;exact zF0 (l:=r) (rQ h hn.1) hn.2
theorem kK:∀ {l:List (Nat×Obj')} {m:Nat} {x:Obj'},(m,x)∈zW h l↔∃ n o,(n,o)∈l/\m=h n/\x=x9 (ren h) o
 |[],m,x=>by simp[zW]| (n,y)::r,m,x=>by simp only[zW,z9,kK (l:=r)];constructor;{rintro (e|⟨k,o,hk,e1,e2⟩);{cases e;exact⟨n,y,.inl rfl,rfl,rfl⟩};{exact⟨k,o,.inr hk,e1,e2⟩}};{rintro⟨k,o,hk|hk,e1,e2⟩;{cases hk;exact .inl (by rw[e1,e2])};{exact .inr ⟨k,o,hk,e1,e2⟩}}
theorem sQ:∀ (l k:List (Nat×Obj')),zW h (l++k)=zW h l++zW h k
 |[],k=>rfl| (n,x)::r,k=>by simp[zW,sQ r k]
theorem gY:∀ (l:List (Nat×Obj')),(zW h l).map Prod.fst=(l.map Prod.fst).map h
 |[]=>rfl| (n,x)::r=>by simp[zW,gY r]
theorem mE:∀ {l objs:List (Nat×Obj')},kM h objs l->∀ {n o},(n,o)∈l->(h n,x9 (ren h) o)∈objs/\c6 o=true
 |(m,x)::r,objs,H,n,o,hm=>by simp only[z9] at hm;rcases hm with hm|hm;{cases hm;exact⟨xH H.1.1,H.1.2⟩};{exact mE H.2 hm}
theorem zB7 {L:List Nat}:∀ {l:List (Nat×Obj')},sM L l=true->∀ {n o},(n,o)∈l->c6 o=true/\nmOb L o=true
 |(m,x)::r,H,n,o,hm=>by simp only[sM,y9] at H;simp only[z9] at hm;rcases hm with hm|hm;{cases hm;exact H.1};{exact zB7 H.2 hm}
theorem zEJ {p:PV->Bool}:∀ {hs:List (PV×(Unit->Nat))},allH p hs=true->∀ {v k},(v,k)∈hs->p v=true
 |(u,j)::r,H,v,k,hm=>by simp only[allH,y9] at H;rcases z9.1 hm with hm|hm;{cases hm;exact H.1};{exact zEJ H.2 hm}
theorem zN4 {n:Nat}{o:Obj'}(ho:c6 o=true)(hat:ObjAt w S β (h n) (x9 (ren h) o)):ObjAt w S (β.ren h) n o:=by
 cases o with
 |box cs =>
  obtain⟨b,vs,T,e1,e2,e3,e4⟩:=hat;rw[zL] at e3;exact⟨b,vs,T,e1,e2,e3,fun j hj=>zIJ (by have:=e4 j (by rw[zL];exact hj);rwa [yH _ rfl] at this) (wV (by simpa only [c6] using ho) j hj)⟩
 |arr s els=>exact hat| log s els=>cases ho
 |lent s els=>cases ho
 |mat s rows hs =>
  obtain⟨hp,h5,h6⟩:=hat;have hr:=jM (ren h) (.mat s rows hs);refine⟨?_,fun i j b hi hj=>h5 i j b ((hr i).2 hi) ((hr j).2 hj),fun i b hi=>h6 i b ((hr i).2 hi)⟩;rcases hp with⟨e1,e2,e3⟩|⟨b,vs,T,h1,h2,h3,h4,h7⟩
  ·refine .inl ⟨e1,e2,?_⟩;cases hs with
   |nil=>rfl| cons x r=>cases e3
  {exact .inr ⟨b,vs,T,h1,h2,h3,fun v k hk=>⟨(h4 _ k (nI (ren h) hk)).1,zIJ (h4 _ k (nI (ren h) hk)).2 (zEJ (by simpa only [c6] using ho) hk)⟩,fun i hi=>h7 i ((hr i).2 hi)⟩}
theorem zRU {L:List Nat}{n:Nat}{o:Obj'}(hL:∀ k,k∈L->βf (h k)=β' k)(hn:nmOb L o=true)(h0:βf (h n)=β' n)(h1:∀ i,βf.r (h n) i=β'.r n i)(hpub:∀ i,¬j5 o i)(hat:ObjAt w S β' n o):ObjAt w S βf (h n) (x9 (ren h) o):=by
 cases o with
 |box cs =>
  obtain⟨b,vs,T,e1,e2,e3,e4⟩:=hat;exact⟨b,vs,T,by rw[h0];exact e1,e2,by rw[zL];exact e3,fun j hj=>by rw[zL] at hj;rw[yH _ rfl];exact zHC hL (e4 j hj) (wV (by simpa only [nmOb] using hn) j hj)⟩
 |arr s els =>
  rcases hat with⟨e0,e⟩|⟨b,vs,T,e1,rest⟩;{exact .inl ⟨by rw[h0];exact e0,e⟩};{exact .inr ⟨b,vs,T,by rw[h0];exact e1,rest⟩}
 |log s els =>
  rcases hat with⟨e0,e⟩|⟨b,vs,T,e1,rest⟩;{exact .inl ⟨by rw[h0];exact e0,e⟩};{exact .inr ⟨b,vs,T,by rw[h0];exact e1,rest⟩}
 |lent s els =>
  obtain⟨hat,hst⟩:=hat;refine⟨?_,fun b hb i hi=>hst b (by rw[<-h0];exact hb) i hi⟩;rcases hat with⟨e0,e⟩|⟨b,vs,T,e1,rest⟩;{exact .inl ⟨by rw[h0];exact e0,e⟩};{exact .inr ⟨b,vs,T,by rw[h0];exact e1,rest⟩}
 |mat s rows hs =>
  obtain⟨hp,h5,h6⟩:=hat;have hr:=jM (ren h) (.mat s rows hs);refine⟨?_,fun i j b hi hj e1 e2=>h5 i j b ((hr i).1 hi) ((hr j).1 hj) (by rw[<-h1];exact e1) (by rw[<-h1];exact e2),fun i b hi e1=>by rw[h0];exact h6 i b ((hr i).1 hi) (by rw[<-h1];exact e1)⟩;rcases hp with⟨e1,e2,e3⟩|⟨b,vs,T,g1,g2,g3,g4,g7⟩;{subst e3;exact .inl ⟨by rw[h0];exact e1,e2,rfl⟩};{refine .inr ⟨b,vs,T,by rw[h0];exact g1,g2,g3,fun v k hk=>?_,fun i hi=>by rw[h1];exact g7 i ((hr i).1 hi)⟩;obtain⟨v',hk',rfl⟩:=eP _ hk;exact⟨(g4 v' k hk').1,zHC hL (g4 v' k hk').2 (zEJ (by simpa only [nmOb] using hn) hk')⟩}
theorem zRT {o:Obj'}(hc:c6 o=true){i:Nat}:¬j5 o i:=by
 cases o with
 |box cs=>exact id| arr s els=>exact id| log s els=>cases hc
 |lent s els=>cases hc
 |mat s rows hs=>exact id
theorem sE {n:Nat}{o:Obj'}{b:Nat}:Own (β.ren h) n o b↔Own β (h n) (x9 (ren h) o) b:=by constructor;{rintro (e|⟨i,h1,h2⟩);{exact .inl e};{exact .inr ⟨i,(jM _ o i).2 h1,h2⟩}};{rintro (e|⟨i,h1,h2⟩);{exact .inl e};{exact .inr ⟨i,(jM _ o i).1 h1,h2⟩}}
theorem zA6 {ps:PS}:∀ {l:List (Nat×Obj')},nL h ps l=true->∀ {n o},(n,o)∈l->yJ (h n) ps=true
 |(m,x)::r,H,n,o,hm=>by simp only[nL,y9] at H;simp only[z9] at hm;rcases hm with hm|hm;{cases hm;exact H.1};{exact zA6 H.2 hm}
theorem zDW:∀ {l:List (Nat×Obj')} {n:Nat},n∈pI l->∃ o,(n,o)∈l
 |(m,x)::r,n,hm=>by simp only[pI,z9] at hm;rcases hm with hm|hm;{subst hm;exact⟨x,xD⟩};{obtain⟨o,ho⟩:=zDW hm;exact⟨o,xI _ ho⟩}
theorem zOF:∀ {l:List Nat},(l.map h).Nodup->∀ {n m},n∈l->m∈l->h n=h m->n=m
 |x::r,hnd,n,m,hn,hm,e=>by simp only[uC,tF] at hnd;simp only[z9] at hn hm;rcases hn with rfl|hn;{rcases hm with rfl|hm;{rfl};{exact absurd (yS.2 ⟨m,hm,e.symm⟩) hnd.1}};{rcases hm with rfl|hm;{exact absurd (yS.2 ⟨n,hn,e⟩) hnd.1};{exact zOF hnd.2 hn hm e}}
theorem nG {l:List (Nat×Obj')}(hnd:((zW h l).map Prod.fst).Nodup){n m:Nat}{o o':Obj'}(hn:(n,o)∈l)(hm:(m,o')∈l)(e:h n=h m):n=m:=by rw[gY] at hnd;have h1:n∈l.map Prod.fst:=yS.2 ⟨_,hn,rfl⟩;have h2:m∈l.map Prod.fst:=yS.2 ⟨_,hm,rfl⟩;exact zOF hnd h1 h2 e
section
variable {L:List Nat}
theorem Rep.free0 (hL:∀ m,m∉L->βf m=β m){v pv}(r:Rep w S β v pv)(hf:∀ d,d∈L->rf0 d pv=true):Rep w S βf v pv:=by
 have key:∀ m,(∀ d,d∈L->(!(nqb m d))=true)->βf m=β m:=fun m hm=>hL m fun hin=>by have:=hm m hin;simp at this
 cases r with
 |c hc h=>exact .c hc h| nil=>exact .nil| agg hl h =>
  cases L with
  |nil=>exact (by have e:∀ m,βf m=β m:=fun m=>hL m (by simp);exact .agg hl fun j hj=>(h j hj).place e)| cons d r=>have:=hf d xD;simp[rf0] at this
 |tup hl h =>
  cases L with
  |nil=>exact (by have e:∀ m,βf m=β m:=fun m=>hL m (by simp);exact .tup hl fun j hj=>(h j hj).place e)| cons d r=>have:=hf d xD;simp[rf0] at this
 |fn hl h =>
  cases L with
  |nil=>exact (by have e:∀ m,βf m=β m:=fun m=>hL m (by simp);exact .fn hl fun j hj=>(h j hj).place e)| cons d r=>have:=hf d xD;simp[rf0] at this
 |ptr hβ=>exact .ptr (by rw[key _ fun d hd=>by simpa only [rf0] using hf d hd];exact hβ)| aptr hβ=>exact .aptr (by rw[key _ fun d hd=>by simpa only [rf0] using hf d hd];exact hβ)| dptr vals hSb hf' hc hr=>exact .dptr vals hSb hf' hc hr| osl hβ hlc hb hsz=>exact .osl (by rw[key _ fun d hd=>by simpa only [rf0] using hf d hd];exact hβ) hlc hb hsz| nilf=>exact .nilf| nilp=>exact .nilp| emp a=>exact .emp a| osl0 hβ ho hl=>exact .osl0 (by rw[key _ fun d hd=>by simpa only [rf0] using hf d hd];exact hβ) ho hl
theorem dZ {p:Nat->PV->Bool}(hp:∀ d,p d .any=true){cs:List PV}(hf:∀ d,d∈L->yV (p d) cs=true)(j:Nat):∀ d,d∈L->p d (cs.getD j .any)=true:=fun d hd=>xU (hp d) (hf d hd) j
theorem Rep.free1 (hL:∀ m,m∉L->βf m=β m){v pv}(r:Rep w S β v pv)(hf:∀ d,d∈L->rf1 d pv=true):Rep w S βf v pv:=by
 cases r with
 |agg hl h=>exact .agg hl fun j hj=>(h j hj).free0 hL (dZ (fun _=>rfl) (fun d hd=>by simpa only [rf1] using hf d hd) j)| tup hl h=>exact .tup hl fun j hj=>(h j hj).free0 hL (dZ (fun _=>rfl) (fun d hd=>by simpa only [rf1] using hf d hd) j)| fn hl h=>exact .fn hl fun j hj=>(h j hj).free0 hL (dZ (fun _=>rfl) (fun d hd=>by simpa only [rf1] using hf d hd) j)| c hc h=>exact .c hc h| nil=>exact .nil| ptr hβ=>exact (Rep.ptr hβ).free0 hL hf| aptr hβ=>exact (Rep.aptr hβ).free0 hL hf| dptr vals hSb hf' hc hr=>exact .dptr vals hSb hf' hc hr| osl hβ hlc hb hsz=>exact (Rep.osl hβ hlc hb hsz).free0 hL hf| nilf=>exact .nilf| nilp=>exact .nilp| emp a=>exact .emp a| osl0 hβ ho hl=>exact (Rep.osl0 hβ ho hl).free0 hL hf
theorem Rep.free (hL:∀ m,m∉L->βf m=β m){v pv}(r:Rep w S β v pv)(hf:∀ d,d∈L->xV d pv=true):Rep w S βf v pv:=by
 cases r with
 |agg hl h=>exact .agg hl fun j hj=>(h j hj).free1 hL (dZ (fun _=>rfl) (fun d hd=>by simpa only [xV] using hf d hd) j)| tup hl h=>exact .tup hl fun j hj=>(h j hj).free1 hL (dZ (fun _=>rfl) (fun d hd=>by simpa only [xV] using hf d hd) j)| fn hl h=>exact .fn hl fun j hj=>(h j hj).free1 hL (dZ (fun _=>rfl) (fun d hd=>by simpa only [xV] using hf d hd) j)| c hc h=>exact .c hc h| nil=>exact .nil| ptr hβ=>exact (Rep.ptr hβ).free0 hL hf| aptr hβ=>exact (Rep.aptr hβ).free0 hL hf| dptr vals hSb hf' hc hr=>exact .dptr vals hSb hf' hc hr| osl hβ hlc hb hsz=>exact (Rep.osl hβ hlc hb hsz).free0 hL hf| nilf=>exact .nilf| nilp=>exact .nilp| emp a=>exact .emp a| osl0 hβ ho hl=>exact (Rep.osl0 hβ ho hl).free0 hL hf
theorem ObjAt.free {m:Nat}{o:Obj'}(hL:∀ m,m∉L->βf m=β m)(hm:m∉L)(hr:∀ i,βf.r m i=β.r m i)(hf:∀ d,d∈L->f6 d o)(hat:ObjAt w S β m o):ObjAt w S βf m o:=by
 have e:=hL m hm;have hrow:∀ {s els},RowAt w S β m s els->RowAt w S βf m s els:=fun h=>by rcases h with⟨e0,e1⟩|⟨b,vs,T,e1,rest⟩;{exact .inl ⟨by rw[e];exact e0,e1⟩};{exact .inr ⟨b,vs,T,by rw[e];exact e1,rest⟩}
 cases o with
 |box cs =>
  obtain⟨b,vs,T,e1,e2,e3,e4⟩:=hat;exact⟨b,vs,T,by rw[e];exact e1,e2,e3,fun j hj=>(e4 j hj).free hL (dZ (p:=xV) (fun _=>rfl) (fun d hd=>hf d hd) j)⟩
 |arr s els=>exact hrow hat| log s els=>exact hrow hat| lent s els=>exact⟨hrow hat.1,fun b hb i hi=>hat.2 b (by rw[<-e];exact hb) i hi⟩| mat s rows hs =>
  obtain⟨hp,h5,h6⟩:=hat;refine⟨?_,fun i j b hi hj e1 e2=>h5 i j b hi hj (by rw[<-hr];exact e1) (by rw[<-hr];exact e2),fun i b hi e1=>by rw[e];exact h6 i b hi (by rw[<-hr];exact e1)⟩;rcases hp with⟨e1,e2,e3⟩|⟨b,vs,T,g1,g2,g3,g4,g7⟩;{exact .inl ⟨by rw[e];exact e1,e2,e3⟩};{exact .inr ⟨b,vs,T,by rw[e];exact g1,g2,g3,fun v k hk=>⟨(g4 v k hk).1,(g4 v k hk).2.free hL fun d hd=>bB (hf d hd) hk⟩,fun i hi=>by rw[hr];exact g7 i hi⟩}
end
theorem zFZ:∀ {k l:List (Nat×Obj')} {m:Nat} {o:Obj'},(l.map Prod.fst).Nodup->(∀ n x,(n,x)∈k->h n∈l.map Prod.fst)->((zW h k).map Prod.fst).Nodup->(m,o)∈a8 h l k ->(∃ n o',(n,o')∈k/\m=h n/\o=x9 (ren h) o')\/((m,o)∈l/\m∉(zW h k).map Prod.fst)
 |[],l,m,o,hnd,hin,hk,hm=>.inr ⟨hm,by simp[zW]⟩| (n,x)::r,l,m,o,hnd,hin,hk,hm=>by have hn:=hin n x xD;simp only[zW,uC,tF] at hk;simp only[a8] at hm;have hnm:(setO l (h n) (x9 (ren h) x)).map Prod.fst=l.map Prod.fst:=uK hn;rcases zFZ (k:=r) (by rw[hnm];exact hnd) (fun k y hk=>by rw[hnm];exact hin k y (xI _ hk)) hk.2 hm with⟨k,y,h1,h2⟩|⟨h1,h2⟩;{exact .inl ⟨k,y,xI _ h1,h2⟩};{rcases wF hnd hn h1 with⟨rfl,rfl⟩|⟨h3,h4⟩;{exact .inl ⟨n,x,xD,rfl,rfl⟩};{exact .inr ⟨h4,by simp only[zW,uC,z9,not_or];exact⟨h3,h2⟩⟩}}
theorem zA0:∀ {k l:List (Nat×Obj')},(∀ n x,(n,x)∈k->h n∈l.map Prod.fst)->(a8 h l k).map Prod.fst=l.map Prod.fst
 |[],l,_=>rfl| (n,x)::r,l,hin=>by have hn:=hin n x xD;have hnm:(setO l (h n) (x9 (ren h) x)).map Prod.fst=l.map Prod.fst:=uK hn;simp only[a8];rw[zA0 (k:=r) (fun k y hk=>by rw[hnm];exact hin k y (xI _ hk)),hnm]
theorem zCX {l k:List (Nat×Obj')}(e:l.map Prod.fst=k.map Prod.fst){n:Nat}{o:Obj'}(hm:(n,o)∈l):∃ o',(n,o')∈k:=by
 have h1:n∈k.map Prod.fst:=by rw[<-e];exact yS.2 ⟨_,hm,rfl⟩
 obtain⟨⟨m,o'⟩,h2,h3⟩:=yS.1 h1;simp only at h3;subst h3;exact⟨o',h2⟩
theorem zFV {f:PV->PV}{o:Obj'}(hc:c6 o=true){i:Nat}:¬j5 (x9 f o) i:=by
 cases o with
 |box cs=>exact id| arr s els=>exact id| log s els=>cases hc
 |lent s els=>cases hc
 |mat s rows hs=>exact id
theorem ObjAt.map {f:PV->PV}{m:Nat}{o:Obj'}(hf:f .any=.any)(hr:∀ v x,Rep w S β v x->Rep w S β v (f x))(h:ObjAt w S β m o):ObjAt w S β m (x9 f o):=by
 cases o with
 |box cs =>
  obtain⟨b,vs,T,e1,e2,e3,e4⟩:=h;exact⟨b,vs,T,e1,e2,by rw[zL];exact e3,fun j hj=>by rw[zL] at hj;rw[yH _ hf];exact hr _ _ (e4 j hj)⟩
 |arr s els=>exact h| log s els=>exact h| lent s els=>exact h| mat s rows hs=>exact MatAt.map h (fun _ _ h=>h) fun v x k _ hv=>hr v x hv
theorem eD {f:PV->PV}{n:Nat}(hf:∀ v,xV n (f v)=true):∀ hs:List (PV×(Unit->Nat)),aC n (gF f hs)=true
 |[]=>rfl| (v,k)::r=>by simp only[gF,aC,hf,eD hf r];rfl
theorem zDC {c:PV}(hc:lM c=true):ren h c=c/\lv c=true/\∀ l,nmIn l c=true:=by cases c <;> simp[lM,jN] at hc <;> exact⟨rfl,rfl,fun _=>rfl⟩
theorem zCK {o:Obj'}(hc:oQ o=true):x9 (ren h) o=o:=by
 cases o with
 |box cs =>
  show Obj'.box (vL (ren h) cs)=_;have:∀ l:List PV,yV lM l=true->vL (ren h) l=l:=by
   intro l;induction l with
   |nil=>intro _;rfl
   |cons c r ih=>intro hl;simp only[yV,y9] at hl;simp only[vL,(zDC hl.1).1,ih hl.2]
  rw[this cs hc]
 |mat s rows hs =>
  cases hs with
  |nil=>rfl| cons x r=>cases hc
 |_=>rfl
theorem zA8 {o:Obj'}(hc:oQ o=true):c6 o=true:=by
 cases o with
 |box cs =>
  have:∀ l:List PV,yV lM l=true->yV lv l=true:=by
   intro l;induction l with
   |nil=>intro _;rfl
   |cons c r ih=>intro hl;simp only[yV,y9] at hl ⊢;exact⟨(zDC (h:=id) hl.1).2.1,ih hl.2⟩
  exact this cs hc
 |arr s els=>rfl| log s els=>cases hc
 |lent s els=>cases hc
 |mat s rows hs =>
  cases hs with
  |nil=>rfl| cons x r=>cases hc
theorem zQE {o:Obj'}{l:List Nat}(hc:oQ o=true):nmOb l o=true:=by
 cases o with
 |box cs =>
  have:∀ k:List PV,yV lM k=true->yV (nmIn l) k=true:=by
   intro k;induction k with
   |nil=>intro _;rfl
   |cons c r ih=>intro hl;simp only[yV,y9] at hl ⊢;exact⟨(zDC (h:=id) hl.1).2.2 l,ih hl.2⟩
  exact this cs hc
 |mat s rows hs =>
  cases hs with
  |nil=>rfl| cons x r=>cases hc
 |_=>rfl
theorem zYS {l:List (Nat×Obj')}(hinj:∀ n o m o',(n,o)∈l->(m,o')∈l->h n=h m->n=m)(β β':Bm):∃ βf:Bm,(∀ n o,(n,o)∈l->βf (h n)=β' n)/\(∀ n o i,(n,o)∈l->βf.r (h n) i=β'.r n i) /\ (∀ m,(∀ n o,(n,o)∈l->h n≠m)->βf m=β m)/\∀ m i,(∀ n o,(n,o)∈l->h n≠m)->βf.r m i=β.r m i:=by
 classical
 refine⟨⟨fun m=>if e:∃ n o,(n,o)∈l/\h n=m then β' (Classical.choose e) else β m,fun m i=>if e:∃ n o,(n,o)∈l/\h n=m then β'.r (Classical.choose e) i else β.r m i⟩,fun n o hm=>?_,fun n o i hm=>?_,fun m hno=>?_,fun m i hno=>?_⟩;{have e:∃ k o,(k,o)∈l/\h k=h n:=⟨n,o,hm,rfl⟩;obtain⟨o',h1,h2⟩:=Classical.choose_spec e;show (if e:∃ k o,(k,o)∈l/\h k=h n then β' (Classical.choose e) else β (h n))=β' n;rw[dif_pos e,hinj _ _ _ _ h1 hm h2]};{have e:∃ k o,(k,o)∈l/\h k=h n:=⟨n,o,hm,rfl⟩;obtain⟨o',h1,h2⟩:=Classical.choose_spec e;show (if e:∃ k o,(k,o)∈l/\h k=h n then β'.r (Classical.choose e) i else β.r (h n) i)=β'.r n i;rw[dif_pos e,hinj _ _ _ _ h1 hm h2]};{exact dif_neg fun⟨n,o,h1,h2⟩=>hno n o h1 h2};{exact dif_neg fun⟨n,o,h1,h2⟩=>hno n o h1 h2}
theorem zCM {o:Oper}{c:Call}{f:Operand}(hop:o.op=.call c)(hcl:c.callee=.value f){Km:Act->World->Prop}{Q:Exit->Act->World->Prop}(hs:Sim w0 S0 K0 N τ objs a w S β) {g:FuncId} {caps:List PV} (hf:ev τ f=.fn g caps) {cargs:List PV} {kept eaten:List (Nat×Obj')} {r:PV} {kept' made:List (Nat×Obj')} (hle:LeL (evs (ev τ) c.args.toList++caps) (renL h cargs)) (hso:Sound g cargs kept eaten r kept' made) (hobj:kM h objs (kept++eaten)) (hnd1:ndO (zW h (kept++eaten))=true) (hnd2:ndO (kept++eaten)=true) (hclo:sM (pI (kept'++made)) (kept'++made)=true) (hnd3:ndO (zW h made)=true) (hfr:∀ {n o},(n,o)∈made->(∀ t,xV (h n) (cG ((zW h eaten).map Prod.fst) (τ t))=true)/\x5 (h n) (y5 (cG ((zW h eaten).map Prod.fst)) (hH ((zW h eaten).map Prod.fst) objs))=true) (hlv:yV lv cargs=true) (hlr:lv r=true) (hnm:nmIn (pI (kept'++made)) r=true) (hk:∀ w' S' β' v,Sim w0 S0 K0 N (fun t=>cG ((zW h eaten).map Prod.fst) (τ t)) (a8 h (y5 (cG ((zW h eaten).map Prod.fst)) (hH ((zW h eaten).map Prod.fst) objs)) kept'++zW h made) a w' S' β'->Rep w' S' β' v (ren h r)->Km (a.put o.dst v) w'):o.wp Pg a w Km Q:=by
 have hfv:=hs.eval f;rw[hf] at hfv;obtain⟨vs,hv,hl,hr⟩:=fV hfv;have hargs:=((zCZ (fun x=>hs.eval x) c.args.toList).append ⟨hl,hr⟩).le hle;have hnodup1:=jW hnd1;have hmemo:∀ {n x},(n,x)∈kept++eaten->(h n,x9 (ren h) x)∈objs/\c6 x=true:=fun hm=>mE hobj hm;have hblk:∀ b,Blk (β.ren h) (kept++eaten) b->(∀ i,¬S b i)/\b<w.heap.size/\(w0.heap.size<=b\/K0 b):=by rintro b ⟨n,x,hm,hβ⟩;obtain⟨h1,h2⟩:=hmemo hm;have hβ':=sE.1 hβ;exact⟨fun i hS=>zFV h2 ((hs.obj.un _ _ b h1 hβ').1 i hS),(hs.obj.un _ _ b h1 hβ').2,hs.own _ _ b h1 hβ'⟩
 have hobjs:ObjsAt w S (β.ren h) (kept++eaten):=⟨jW hnd2,fun n x hm=>zN4 (hmemo hm).2 (hs.obj.at_ _ _ (hmemo hm).1),fun n x b hm hβ=>⟨fun i hS=>absurd hS ((hblk b ⟨n,x,hm,hβ⟩).1 i),(hblk b ⟨n,x,hm,hβ⟩).2.1⟩,
  fun n x m y b hm hm' hβ hβ'=>nG hnodup1 hm hm' (hs.obj.inj _ _ _ _ b (hmemo hm).1 (hmemo hm').1 (sE.1 hβ) (sE.1 hβ'))⟩
 have hlen:(renL h cargs).length=cargs.length:=zL _ _;unfold Oper.wp;rw[tU hop hcl hv hso.isf,Oper.upon_enter];refine (hso.go w S (β.ren h) _ hs.ld.bnd hobjs (by rw[hargs.1,hlen]) (fun j hj=>zIJ (by have:=hargs.2 j (by rw[hlen];exact hj);rwa [renL,yH _ rfl] at this) (wV hlv j hj))).mono ?_;rintro e w' ⟨v,S',β',rfl,l,hrep,ho',hnk,hβk,hmd⟩;show Km (a.put o.dst v) w';have hevo:Evo S w w':=⟨fun b i hS=>cE (l.same b (hs.ld.bnd b i hS) fun hb=>(hblk b hb).1 i hS) i,l.shape⟩;have hsub:∀ b i,S b i->S' b i:=l.subs hs.ld.bnd;have hld:Leads w0 S0 K0 w' S':=by refine⟨vS hs.ld.size l.size,l.os.trans hs.ld.os,l.tape.trans hs.ld.tape,l.output.trans hs.ld.output,fun b hb hk=>?_,fun b us U hb=>?_,l.bnd,fun b i hb hS=>hsub b i (hs.ld.sub b i hb hS),fun b i hb hk hS=>?_⟩;{have hb':=gN hb hs.ld.size;rw[l.same b hb' fun hx=>by rcases (hblk b hx).2.2 with h'|h';omega;exact hk h'];exact hs.ld.same b hb hk};{obtain⟨us',e1,e2⟩:=hs.ld.shape b us U hb;obtain⟨us'',e3,e4⟩:=l.shape b us' U e1;exact⟨us'',e3,e4.trans e2⟩};{have hb':=gN hb hs.ld.size;exact hs.ld.old b i hb hk (l.old b i hb' (fun hx=>by rcases (hblk b hx).2.2 with h'|h';omega;exact hk h') hS)}
 
 have hmid:∀ {m x},(m,x)∈(y5 (cG ((zW h eaten).map Prod.fst)) (hH ((zW h eaten).map Prod.fst) objs))->(∃ x',(m,x')∈objs/\x=x9 (cG ((zW h eaten).map Prod.fst)) x')/\m∉(zW h eaten).map Prod.fst:=by intro m x hm;obtain⟨x',h1,h2⟩:=wT _ hm;obtain⟨h3,h4⟩:=zDY h1;exact⟨⟨x',h3,h2⟩,h4⟩
 have hkin:∀ n x,(n,x)∈kept->h n∈((y5 (cG ((zW h eaten).map Prod.fst)) (hH ((zW h eaten).map Prod.fst) objs))).map Prod.fst:=by
  (intro n x hm;have h1:=(hmemo (dB eaten hm)).1;have h2:h n∉(zW h eaten).map Prod.fst:=by intro hx;obtain⟨⟨m,y⟩,h3,h4⟩:=yS.1 hx;simp only at h4;rw[sQ,gL,sJ] at hnodup1;exact hnodup1.2.2 (h n) (yS.2 ⟨_,kK.2 ⟨n,x,hm,rfl,rfl⟩,rfl⟩) m (yS.2 ⟨_,h3,rfl⟩) h4.symm);exact yS.2 ⟨_,rP (cG ((zW h eaten).map Prod.fst)) (zF0 h1 h2),rfl⟩
 have hkin':∀ n x,(n,x)∈kept'->h n∈((y5 (cG ((zW h eaten).map Prod.fst)) (hH ((zW h eaten).map Prod.fst) objs))).map Prod.fst:=by intro n x hm;obtain⟨x',h1⟩:=zCX hnk hm;exact hkin n x' h1
 have hmnd:((y5 (cG ((zW h eaten).map Prod.fst)) (hH ((zW h eaten).map Prod.fst) objs)).map Prod.fst).Nodup:=by simp only[gX];exact (zEA _ _).nodup hs.obj.nd
 have hknd:((zW h kept').map Prod.fst).Nodup:=by rw[gY,hnk,<-gY];rw[sQ,gL,sJ] at hnodup1;exact hnodup1.1
 have hset:∀ {m x},(m,x)∈a8 h (y5 (cG ((zW h eaten).map Prod.fst)) (hH ((zW h eaten).map Prod.fst) objs)) kept'->(∃ n o',(n,o')∈kept'/\m=h n/\x=x9 (ren h) o')\/((m,x)∈(y5 (cG ((zW h eaten).map Prod.fst)) (hH ((zW h eaten).map Prod.fst) objs))/\m∉(zW h kept').map Prod.fst) :=
  fun hm=>zFZ hmnd hkin' hknd hm
 have hβk':∀ n x,(n,x)∈kept'->β' n=β (h n):=by intro n x hm;obtain⟨x',h1⟩:=zCX hnk hm;exact hβk n x' h1
 have hnew:∀ {n o m x},(n,o)∈made->(m,x)∈(y5 (cG ((zW h eaten).map Prod.fst)) (hH ((zW h eaten).map Prod.fst) objs))->m≠h n:=fun hm hx=>(yK (hfr hm).2 hx).1;have hkm:∀ {n o m o'},(n,o)∈made->(m,o')∈kept'->h m≠h n:=fun hm hx e=>by obtain⟨⟨q,y⟩,q1,q2⟩:=yS.1 (hkin' _ _ hx);exact hnew hm q1 (by rw[<-e];exact q2)
 have hinj:∀ n o m o',(n,o)∈kept'++made->(m,o')∈kept'++made->h n=h m->n=m:=fun n o m o' hm hm' e=>by
  (rcases wQ.1 hm with h1|h1 <;> rcases wQ.1 hm' with h2|h2);{exact nG hknd h1 h2 e}
  {exact absurd e (hkm h2 h1)};{exact absurd e.symm (hkm h1 h2)};{exact nG (jW hnd3) h1 h2 e}
 obtain⟨βf,hf1,hf2,hf3,hf4⟩:=zYS hinj β β';have hno:∀ {m},m∉(zW h kept').map Prod.fst->m∉(zW h made).map Prod.fst->∀ n o,(n,o)∈kept'++made->h n≠m:=fun h1 h2 n o hm e=>by rcases wQ.1 hm with h3|h3;{exact h1 (yS.2 ⟨_,kK.2 ⟨n,o,h3,rfl,rfl⟩,e⟩)};{exact h2 (yS.2 ⟨_,kK.2 ⟨n,o,h3,rfl,rfl⟩,e⟩)}
 have hL:∀ m,m∉(zW h made).map Prod.fst->βf m=β m:=fun m hm=>by by_cases hk:m∈(zW h kept').map Prod.fst;{obtain⟨⟨q,y⟩,q1,q2⟩:=yS.1 hk;obtain⟨n,o,q3,q4,_⟩:=kK.1 q1;simp only at q2;rw[<-q2,q4,hf1 n o (dB made q3),hβk' n o q3]};{exact hf3 m (hno hk hm)}
 have hmn:∀ {d},d∈(zW h made).map Prod.fst->∃ n o,(n,o)∈made/\d=h n:=fun hd=>by obtain⟨⟨q,y⟩,q1,q2⟩:=yS.1 hd;obtain⟨n,o,q3,q4,_⟩:=kK.1 q1;simp only at q2;exact⟨n,o,q3,by rw[<-q2,q4]⟩
 have hnblk:∀ {m x' b},(m,x')∈objs->m∉(zW h eaten).map Prod.fst->m∉(zW h kept').map Prod.fst->Own β m x' b->¬Blk (β.ren h) (kept++eaten) b:=by rintro m x' b hm hne hnk' hβ ⟨n,y,hy,hβn⟩;have heq:=hs.obj.inj _ _ _ _ b hm (hmemo hy).1 hβ (sE.1 hβn);rcases wQ.1 hy with hy|hy;{rw[gY,hnk,<-gY] at hnk';exact hnk' (yS.2 ⟨_,kK.2 ⟨n,y,hy,rfl,rfl⟩,heq.symm⟩)};{exact hne (yS.2 ⟨_,kK.2 ⟨n,y,hy,rfl,rfl⟩,heq.symm⟩)}
 have hall:∀ {m x},(m,x)∈a8 h (y5 (cG ((zW h eaten).map Prod.fst)) (hH ((zW h eaten).map Prod.fst) objs)) kept'++zW h made->(∃ n o',(n,o')∈kept'++made/\m=h n/\x=x9 (ren h) o')\/((m,x)∈(y5 (cG ((zW h eaten).map Prod.fst)) (hH ((zW h eaten).map Prod.fst) objs))/\m∉(zW h kept').map Prod.fst/\m∉(zW h made).map Prod.fst):=fun hm=>by rcases wQ.1 hm with h1|h1;{rcases hset h1 with⟨n,o',h2,h3,h4⟩|⟨h2,h3⟩;{exact .inl ⟨n,o',dB made h2,h3,h4⟩};{refine .inr ⟨h2,h3,fun hd=>?_⟩;obtain⟨n,o,q1,q2⟩:=hmn hd;exact hnew q1 h2 q2}};{obtain⟨n,o',h2,h3,h4⟩:=kK.1 h1;exact .inl ⟨n,o',c9 kept' h2,h3,h4⟩}
 have hownF:∀ {n o b},(n,o)∈kept'++made->Own βf (h n) (x9 (ren h) o) b->Own β' n o b:=fun hm hb=>by rcases hb with hb|⟨i,h1,h2⟩;{exact .inl (by rw[<-hf1 _ _ hm];exact hb)};{exact .inr ⟨i,(jM _ _ i).1 h1,by rw[<-hf2 _ _ i hm];exact h2⟩}
 have hownO:∀ {m x b},m∉(zW h kept').map Prod.fst->m∉(zW h made).map Prod.fst->Own βf m x b->Own β m x b:=fun h1 h2 hb=>by rcases hb with hb|⟨i,h3,h4⟩;{exact .inl (by rw[<-hf3 _ (hno h1 h2)];exact hb)};{exact .inr ⟨i,h3,by rw[<-hf4 _ i (hno h1 h2)];exact h4⟩}
 have hsim:Sim w0 S0 K0 N (fun t=>cG ((zW h eaten).map Prod.fst) (τ t)) (a8 h (y5 (cG ((zW h eaten).map Prod.fst)) (hH ((zW h eaten).map Prod.fst) objs)) kept'++zW h made) a w' S' βf:=by
  refine⟨hs.dfr,hs.sz,hld,fun t=>?_,⟨?_,?_,?_,?_⟩,?_,?_⟩;{have h1:Rep w' S' β (a.tmps.getD t undef) (cG ((zW h eaten).map Prod.fst) (τ t)):=zDI _ ((hs.tmp t).evo hevo hsub);exact h1.free hL fun d hd=>by obtain⟨n,o,q1,rfl⟩:=hmn hd;exact (hfr q1).1 t};{rw[gL,zA0 hkin',sJ];refine⟨hmnd,jW hnd3,fun x hx y hy e=>?_⟩;obtain⟨n,o,q1,q2⟩:=hmn hy;obtain⟨⟨q,z⟩,q3,q4⟩:=yS.1 hx;simp only at q4;exact hnew q1 q3 (by rw[q4,e,q2])};{intro m x hm;rcases hall hm with⟨n,o',h1,rfl,rfl⟩|⟨h1,h2,h3⟩;{obtain⟨g1,g2⟩:=zB7 hclo h1;exact zRU (L:=pI (kept'++made)) (fun k hk=>by obtain⟨y,hy⟩:=zDW hk;exact hf1 k y hy) g2 (hf1 n o' h1) (fun i=>hf2 n o' i h1) (fun i=>zRT g1) (ho'.at_ n o' h1)};{obtain⟨⟨x',h4,rfl⟩,h5⟩:=hmid h1;have hat:=((hs.obj.at_ m x' h4).evo hevo fun b hb=>l.same b (hs.obj.un _ _ b h4 hb).2 (hnblk h4 h5 h2 hb)).mono hsub;exact (hat.map (i5 _) fun v x hx=>zDI _ hx).free hL h3 (fun i=>hf4 m i (hno h2 h3)) fun d hd=>by obtain⟨n,o,q1,rfl⟩:=hmn hd;exact (yK (hfr q1).2 h1).2}};{intro m x b hm hβ;rcases hall hm with⟨n,o',h1,rfl,rfl⟩|⟨h1,h2,h3⟩;{obtain⟨g1,g2⟩:=ho'.un n o' b h1 (hownF h1 hβ);exact⟨fun i hS=>rK (g1 i hS),g2⟩};{obtain⟨⟨x',h4,rfl⟩,h5⟩:=hmid h1;have hb:=v6 (hownO h2 h3 hβ);obtain⟨q1,q2⟩:=hs.obj.un m x' b h4 hb;exact⟨fun i hS=>rK (q1 i (l.old b i q2 (hnblk h4 h5 h2 hb) hS)),gN q2 l.size⟩}}
  ·have cross:∀ {n o m x b},(n,o)∈kept'++made->Own β' n o b->(m,x)∈(y5 (cG ((zW h eaten).map Prod.fst)) (hH ((zW h eaten).map Prod.fst) objs))->m∉(zW h kept').map Prod.fst->Own β m x b->False:=fun hn hb hm hk hb'=>by obtain⟨⟨x',h4,rfl⟩,h5⟩:=hmid hm;have hb'':=v6 hb';rcases hmd _ _ _ hn hb with g|g;{have:=(hs.obj.un _ x' _ h4 hb'').2;omega};{exact hnblk h4 h5 hk hb'' g}
   (intro m x m' x' b hm hm' hβ hβ';rcases hall hm with⟨n,o',h1,rfl,rfl⟩|⟨h1,h2,h3⟩ <;> rcases hall hm' with⟨n',o'',h4,rfl,rfl⟩|⟨h4,h5,h6⟩);{rw[ho'.inj _ _ _ _ b h1 h4 (hownF h1 hβ) (hownF h4 hβ')]}
   {exact (cross h1 (hownF h1 hβ) h4 h5 (hownO h5 h6 hβ')).elim};{exact (cross h4 (hownF h4 hβ') h1 h2 (hownO h2 h3 hβ)).elim};{obtain⟨⟨y,h7,rfl⟩,_⟩:=hmid h1;obtain⟨⟨y',h8,rfl⟩,_⟩:=hmid h4;exact hs.obj.inj _ _ _ _ b h7 h8 (v6 (hownO h2 h3 hβ)) (v6 (hownO h5 h6 hβ'))}
  {intro m x b hm hβ;rcases hall hm with⟨n,o',h1,rfl,rfl⟩|⟨h1,h2,h3⟩;{rcases hmd n o' b h1 (hownF h1 hβ) with g|g;{exact .inl (vS hs.ld.size g)};{exact (hblk b g).2.2}};{obtain⟨⟨x',h4,rfl⟩,h5⟩:=hmid h1;exact hs.own m x' b h4 (v6 (hownO h2 h3 hβ))}};{intro m x hm hb;rcases hall hm with⟨n,o',h1,rfl,rfl⟩|⟨h1,h2,h3⟩;{rcases wQ.1 h1 with h2|h2;{obtain⟨x',h3⟩:=zCX hnk h2;rw[hf1 n o' h1,hβk' n o' h2];exact hs.keep _ _ (hmemo (dB eaten h3)).1 hb};{have:=vX (hfr h2).2;omega}};{obtain⟨⟨x',h4,rfl⟩,h5⟩:=hmid h1;rw[hf3 m (hno h2 h3)];exact hs.keep m x' h4 hb}}
 have hfin:Rep w' S' βf v (ren h r):=zHC (l:=pI (kept'++made)) (fun n hn=>by obtain⟨x,hm⟩:=zDW hn;exact hf1 n x hm) hrep hnm;exact hk _ _ _ _ hsim hfin
theorem zIF {ps:PS}{o:Oper}{c:Call}{f:Operand}(hop:o.op=.call c)(hcl:c.callee=.value f)(hd:∀ t,o.dst=some t->t<N){K:PS->Prop}{Km:Act->World->Prop}{Q:Exit->Act->World->Prop}(hs:Sim w0 S0 K0 N (zA ps.tmps) ps.objs a w S β) {g:FuncId} {caps:List PV} (hf:ev (zA ps.tmps) f=.fn g caps) {cargs:List PV} {kept eaten:List (Nat×Obj')} {r:PV} {kept' made:List (Nat×Obj')} (hle:LeL (evs (ev (zA ps.tmps)) c.args.toList++caps) (renL h cargs)) (hso:Sound g cargs kept eaten r kept' made) (hobj:kM h ps.objs (kept++eaten)) (hnd1:ndO (zW h (kept++eaten))=true) (hnd2:ndO (kept++eaten)=true) (hclo:sM (pI (kept'++made)) (kept'++made)=true) (hnd3:ndO (zW h made)=true) (hfree:nL h (lW h eaten ps) made=true) (hlv:yV lv cargs=true) (hlr:lv r=true) (hnm:nmIn (pI (kept'++made)) r=true) (hK:K (put (nE h eaten kept' made ps) o.dst (ren h r))) (hk:∀ ps' a' w' S' β',K ps'->Sim w0 S0 K0 N (zA ps'.tmps) ps'.objs a' w' S' β'->Km a' w'):o.wp Pg a w Km Q:=by
 refine zCM hop hcl hs hf hle hso hobj hnd1 hnd2 hclo hnd3 (fun hm=>?_) hlv hlr hnm fun w' S' β' v hsim hfin=>?_;{have:=zA6 hfree hm;simp only[yJ,lW,y9] at this;refine⟨fun t=>?_,this.2⟩;rw[<-kZ _ (i5 _)];exact vD this.1 t}
 ·(have e:(fun t=>cG ((zW h eaten).map Prod.fst) (zA ps.tmps t))=zA (nE h eaten kept' made ps).tmps:=by funext t;exact (kZ _ (i5 _) _ _).symm);rw[e] at hsim;exact hk _ _ _ _ _ hK (vK (ps:=nE h eaten kept' made ps) hsim o.dst hd hfin)
theorem zN8:∀ (l:List PV),vL (fun v=>v) l=l
 |[]=>rfl| v::r=>by simp only[vL,zN8 r]
theorem zN7:∀ (l:List (PV×(Unit->Nat))),gF (fun v=>v) l=l
 |[]=>rfl| (v,k)::r=>by simp only[gF,zN7 r]
theorem zN5:∀ (l:List (Nat×Obj')),y5 (fun v=>v) l=l
 |[]=>rfl| (n,o)::r=>by have:=zN5 r;cases o <;> simp only[y5,zN8,zN7,this]
theorem zFR:∀ {l:List (Nat×Obj')} {n:Nat} {o:Obj'},yA l n=some o->setO l n o=l
 |[],n,o,h=>by cases h
 |(u,x)::r,n,o,h=>by
  simp only[yA] at h;simp only[setO];cases hu:nqb u n with
  |true =>
   rw[hu] at h;simp only[bL] at h;rw[h,yM hu]
  |false =>
   rw[hu] at h;simp only;rw[zFR h]
theorem zB1:∀ {kept l:List (Nat×Obj')},kM h l kept->a8 h l kept=l
 |[],l,_=>rfl| (n,o)::r,l,H=>by simp only[a8];rw[zFR H.1.1];exact zB1 H.2
theorem zIG {o:Oper}{c:Call}{f:Operand}(hop:o.op=.call c)(hcl:c.callee=.value f){Km:Act->World->Prop}{Q:Exit->Act->World->Prop}(hs:Sim w0 S0 K0 N τ objs a w S β) {g:FuncId} {caps:List PV} (hf:ev τ f=.fn g caps) {cargs:List PV} {kept:List (Nat×Obj')} {r:PV} (hle:LeL (evs (ev τ) c.args.toList++caps) (renL h cargs)) (hso:Sound g cargs kept [] r kept []) (hobj:kM h objs kept) (hnd1:ndO (zW h kept)=true) (hnd2:ndO kept=true) (hclo:sM (pI kept) kept=true) (hlv:yV lv cargs=true) (hlr:lv r=true) (hnm:nmIn (pI kept) r=true) (hk:∀ w' S' β' v,Sim w0 S0 K0 N τ objs a w' S' β'->Rep w' S' β' v (ren h r)->Km (a.put o.dst v) w'):o.wp Pg a w Km Q:=by
 refine zCM (eaten:=[]) (made:=[]) hop hcl hs hf hle hso (by rw[kC];exact hobj) (by rw[kC];exact hnd1) (by rw[kC];exact hnd2) (by rw[kC];exact hclo) rfl (fun hm=>by cases hm) hlv hlr (by rw[kC];exact hnm) fun w' S' β' v hsim hfin=>?_;have e:a8 h (y5 (cG ((zW h []).map Prod.fst)) (hH ((zW h []).map Prod.fst) objs)) kept++zW h []=objs:=by show a8 h (y5 (fun v=>v) objs) kept++[]=objs;rw[kC,zN5,zB1 hobj]
 rw[e] at hsim;exact hk _ _ _ _ hsim hfin
end
end Go.Proofs.YtfainocfaddbdaaGreat
