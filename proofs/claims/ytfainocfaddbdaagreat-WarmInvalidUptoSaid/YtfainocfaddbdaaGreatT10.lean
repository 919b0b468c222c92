/- A part of the proof: PmM. -/
import Derived.Test.YtfainocfaddbdaaGreatT09
set_option linter.all false
namespace Go.Proofs.YtfainocfaddbdaaGreat
open Go
section
variable {w0:World} {S0:Nat->Nat->Prop} {K0:Nat->Prop} {N:Cx} {τ:Nat->PV} {objs:List (Nat×Obj')} {a:Act} {w w':World} {S S':Nat->Nat->Prop} {β β' βf:Bm} {h:Nat->Nat}
theorem rY {v pv}(r:Rep w S β v (rn0 h pv))(hl:lv0 pv=true):Rep w S (β.ren h) v pv:=by
 cases pv with
 |agg cs=>simp[lv0] at hl| tup cs=>simp[lv0] at hl| fn f cs=>simp[lv0] at hl| ptr m off=>obtain⟨b,hβ,rfl⟩:=uF r;exact .ptr hβ
 |aptr m s i off=>obtain⟨b,hβ,rfl⟩:=qG r;exact .aptr hβ
 |osl m s i len =>
  rcases w8 r with⟨hn,ho,hl,aa,rfl⟩|⟨b,cap,vs,T,hβ,hlc,hw,hsz,rfl⟩;{exact .osl0 hn ho hl};{exact .osl hβ hlc hw hsz}
 |nil=>rw[qP r];exact .nil| dptr cs o=>obtain⟨b,o',vals,hS,rfl,hf,hc,hr⟩:=gY r;exact .dptr vals hS hf hc hr
 |nilf=>cases r with|c hf h=>cases hf|nilf=>exact .nilf
 |nilp=>cases r with|c hf h=>cases hf|nilp=>exact .nilp
 |emp=>obtain⟨a,hv⟩:=rX r;subst hv;exact .emp a
 |_=>exact .c rfl (lN r rfl)
theorem zA2 {v pv}(r:Rep w S β v (rn1 h pv))(hl:lv1 pv=true):Rep w S (β.ren h) v pv:=by
 cases pv with
 |agg cs =>
  obtain⟨vs,rfl,h1,h2⟩:=vL r;rw[zH] at h1;exact .agg h1 fun j hj=>rY (by have:=h2 j (by rw[zH];exact hj);rwa [z8 _ rfl] at this) (xQ (by simpa only [lv1] using hl) j hj)
 |tup cs =>
  obtain⟨vs,rfl,h1,h2⟩:=kS r;rw[zH] at h1;exact .tup h1 fun j hj=>rY (by have:=h2 j (by rw[zH];exact hj);rwa [z8 _ rfl] at this) (xQ (by simpa only [lv1] using hl) j hj)
 |fn f cs =>
  obtain⟨vs,rfl,h1,h2⟩:=kT r;rw[zH] at h1;exact .fn h1 fun j hj=>rY (by have:=h2 j (by rw[zH];exact hj);rwa [z8 _ rfl] at this) (xQ (by simpa only [lv1] using hl) j hj)
 |_=>exact rY r rfl
theorem zB0 {v pv}(r:Rep w S β v (ren h pv))(hl:lv pv=true):Rep w S (β.ren h) v pv:=by
 cases pv with
 |agg cs =>
  obtain⟨vs,rfl,h1,h2⟩:=vL r;rw[zH] at h1;exact .agg h1 fun j hj=>zA2 (by have:=h2 j (by rw[zH];exact hj);rwa [z8 _ rfl] at this) (xQ (by simpa only [lv] using hl) j hj)
 |tup cs =>
  obtain⟨vs,rfl,h1,h2⟩:=kS r;rw[zH] at h1;exact .tup h1 fun j hj=>zA2 (by have:=h2 j (by rw[zH];exact hj);rwa [z8 _ rfl] at this) (xQ (by simpa only [lv] using hl) j hj)
 |fn f cs =>
  obtain⟨vs,rfl,h1,h2⟩:=kT r;rw[zH] at h1;exact .fn h1 fun j hj=>zA2 (by have:=h2 j (by rw[zH];exact hj);rwa [z8 _ rfl] at this) (xQ (by simpa only [lv] using hl) j hj)
 |_=>exact rY r rfl
theorem bI {l:List Nat}(hl':∀ n,n∈l->βf (h n)=β' n){v pv}(r:Rep w S β' v pv)(hn:nm0 l pv=true):Rep w S βf v (rn0 h pv):=by
 cases pv with
 |agg cs=>simp[nm0] at hn| tup cs=>simp[nm0] at hn| fn f cs=>simp[nm0] at hn| ptr m off=>obtain⟨b,hβ,rfl⟩:=uF r;exact .ptr (by rw[hl' _ (wJ (by simpa only [nm0] using hn))];exact hβ)
 |aptr m s i off=>obtain⟨b,hβ,rfl⟩:=qG r;exact .aptr (by rw[hl' _ (wJ (by simpa only [nm0] using hn))];exact hβ)
 |osl m s i len =>
  have e:=hl' _ (wJ (by simpa only [nm0] using hn));rcases w8 r with⟨hn,ho,hl,aa,rfl⟩|⟨b,cap,vs,T,hβ,hlc,hw,hsz,rfl⟩;{exact .osl0 (by rw[e];exact hn) ho hl};{exact .osl (by rw[e];exact hβ) hlc hw hsz}
 |nil=>rw[qP r];exact .nil| dptr cs o=>obtain⟨b,o',vals,hS,rfl,hf,hc,hr⟩:=gY r;exact .dptr vals hS hf hc hr
 |nilf=>cases r with|c hf h=>cases hf|nilf=>exact .nilf
 |nilp=>cases r with|c hf h=>cases hf|nilp=>exact .nilp
 |emp=>obtain⟨a,hv⟩:=rX r;subst hv;exact .emp a
 |_=>exact .c rfl (lN r rfl)
theorem lP {l:List Nat}(hl':∀ n,n∈l->βf (h n)=β' n){v pv}(r:Rep w S β' v pv)(hn:nm1 l pv=true):Rep w S βf v (rn1 h pv):=by
 cases pv with
 |agg cs =>
  obtain⟨vs,rfl,h1,h2⟩:=vL r;exact .agg (by rw[zH];exact h1) fun j hj=>by rw[zH] at hj;rw[z8 _ rfl];exact bI hl' (h2 j hj) (xQ (by simpa only [nm1] using hn) j hj)
 |tup cs =>
  obtain⟨vs,rfl,h1,h2⟩:=kS r;exact .tup (by rw[zH];exact h1) fun j hj=>by rw[zH] at hj;rw[z8 _ rfl];exact bI hl' (h2 j hj) (xQ (by simpa only [nm1] using hn) j hj)
 |fn f cs =>
  obtain⟨vs,rfl,h1,h2⟩:=kT r;exact .fn (by rw[zH];exact h1) fun j hj=>by rw[zH] at hj;rw[z8 _ rfl];exact bI hl' (h2 j hj) (xQ (by simpa only [nm1] using hn) j hj)
 |_=>exact bI hl' r hn
theorem zA1 {l:List Nat}(hl':∀ n,n∈l->βf (h n)=β' n){v pv}(r:Rep w S β' v pv)(hn:nmIn l pv=true):Rep w S βf v (ren h pv):=by
 cases pv with
 |agg cs =>
  obtain⟨vs,rfl,h1,h2⟩:=vL r;exact .agg (by rw[zH];exact h1) fun j hj=>by rw[zH] at hj;rw[z8 _ rfl];exact lP hl' (h2 j hj) (xQ (by simpa only [nmIn] using hn) j hj)
 |tup cs =>
  obtain⟨vs,rfl,h1,h2⟩:=kS r;exact .tup (by rw[zH];exact h1) fun j hj=>by rw[zH] at hj;rw[z8 _ rfl];exact lP hl' (h2 j hj) (xQ (by simpa only [nmIn] using hn) j hj)
 |fn f cs =>
  obtain⟨vs,rfl,h1,h2⟩:=kT r;exact .fn (by rw[zH];exact h1) fun j hj=>by rw[zH] at hj;rw[z8 _ rfl];exact lP hl' (h2 j hj) (xQ (by simpa only [nmIn] using hn) j hj)
 |_=>exact bI hl' r hn
theorem oP (n:Nat):∀ {cs:List PV},yN sJ cs=true->xT n cs=true
 |[],_=>rfl| c::cs,h=>by simp only[yN,Bool.and_eq_true] at h;simp only[xT,yN,Bool.and_eq_true];exact⟨by cases c <;> simp_all [sJ,kQ,y7,rf0],oP n h.2⟩
theorem mP {n:Nat}(hn:n<1000000):∀ {l:List (Nat×Obj')},(∀ m o,(m,o)∈l->m≠n/\kX n o)->xA n l=true
 |[],_=>by simp[xA,nlt];omega| (m,o1)::r,h=>by
  (have h1:=h m _ List.mem_cons_self;have h2:=mP hn (l:=r) fun m o hm=>h m o (List.mem_cons_of_mem _ hm);have e:(!(nqb m n))=true:=by rw[nbeq h1.1];rfl);cases o1 with
  |box cs=>simp only[xA,Bool.and_eq_true];exact⟨⟨e,h1.2⟩,h2⟩| arr s els=>simp only[xA,Bool.and_eq_true];exact⟨e,h2⟩| log s els=>simp only[xA,Bool.and_eq_true];exact⟨e,h2⟩| lent s els=>simp only[xA,Bool.and_eq_true];exact⟨e,h2⟩| mat s rows hs=>simp only[xA,Bool.and_eq_true];exact⟨⟨e,h1.2⟩,h2⟩
theorem lE:∀ (l:List Nat) {v pv},Rep w S β v pv->Rep w S β v (jS l pv)
 |[],v,pv,h=>h| n::r,v,pv,h=>lE r (nF h)
theorem rR:∀ (l:List Nat),jS l .any=.any
 |[]=>rfl| n::r=>rR r
theorem iE:∀ {l:List Nat} {objs:List (Nat×Obj')} {m:Nat} {o:Obj'},(m,o)∈qB l objs->(m,o)∈objs/\m∉l
 |[],objs,m,o,h=>⟨h,by simp⟩| n::r,objs,m,o,h=>by obtain⟨h1,h2⟩:=iE (l:=r) h;obtain⟨h3,h4⟩:=xP h1;exact⟨h3,by simp[h2,h4]⟩
theorem eC:∀ (l:List Nat) (objs:List (Nat×Obj')),((qB l objs).map Prod.fst).Sublist (objs.map Prod.fst)
 |[],objs=>List.Sublist.refl _| n::r,objs=>(eC r _).trans (bZ _ _)
theorem o3:∀ {l:List Nat} {objs:List (Nat×Obj')} {m:Nat} {o:Obj'},(m,o)∈objs->m∉l->(m,o)∈qB l objs
 |[],objs,m,o,h,_=>h| n::r,objs,m,o,h,hn=>by simp only[List.mem_cons,not_or] at hn;exact o3 (l:=r) (dU h hn.1) hn.2
theorem vZ:∀ {l:List (Nat×Obj')} {m:Nat} {x:Obj'},(m,x)∈zW h l↔∃ n o,(n,o)∈l/\m=h n/\x=xD (ren h) o
 |[],m,x=>by simp[zW]| (n,y)::r,m,x=>by simp only[zW,List.mem_cons,vZ (l:=r)];constructor;{rintro (e|⟨k,o,hk,e1,e2⟩);{cases e;exact⟨n,y,.inl rfl,rfl,rfl⟩};{exact⟨k,o,.inr hk,e1,e2⟩}};{rintro⟨k,o,hk|hk,e1,e2⟩;{cases hk;exact .inl (by rw[e1,e2])};{exact .inr ⟨k,o,hk,e1,e2⟩}}
theorem dC:∀ (l k:List (Nat×Obj')),zW h (l++k)=zW h l++zW h k
 |[],k=>rfl| (n,x)::r,k=>by simp[zW,dC r k]
theorem kC:∀ (l:List (Nat×Obj')),(zW h l).map Prod.fst=(l.map Prod.fst).map h
 |[]=>rfl| (n,x)::r=>by simp[zW,kC r]
theorem bV:∀ {l objs:List (Nat×Obj')},v5 h objs l->∀ {n o},(n,o)∈l->(h n,xD (ren h) o)∈objs/\j4 o=true
 |(m,x)::r,objs,H,n,o,hm=>by simp only[List.mem_cons] at hm;rcases hm with hm|hm;{cases hm;exact⟨yW H.1.1,H.1.2⟩};{exact bV H.2 hm}
theorem lZ {L:List Nat}:∀ {l:List (Nat×Obj')},dB L l=true->∀ {n o},(n,o)∈l->j4 o=true/\nmOb L o=true
 |(m,x)::r,H,n,o,hm=>by simp only[dB,Bool.and_eq_true] at H;simp only[List.mem_cons] at hm;rcases hm with hm|hm;{cases hm;exact H.1};{exact lZ H.2 hm}
theorem eS {p:PV->Bool}:∀ {hs:List (PV×(Unit->Nat))},allH p hs=true->∀ {v k},(v,k)∈hs->p v=true
 |(u,j)::r,H,v,k,hm=>by simp only[allH,Bool.and_eq_true] at H;rcases List.mem_cons.1 hm with hm|hm;{cases hm;exact H.1};{exact eS H.2 hm}
theorem zFQ {n:Nat}{o:Obj'}(ho:j4 o=true)(hat:ObjAt w S β (h n) (xD (ren h) o)):ObjAt w S (β.ren h) n o:=by
 cases o with
 |box cs =>
  obtain⟨b,vs,T,e1,e2,e3,e4⟩:=hat;rw[zH] at e3;exact⟨b,vs,T,e1,e2,e3,fun j hj=>zB0 (by have:=e4 j (by rw[zH];exact hj);rwa [z8 _ rfl] at this) (xQ (by simpa only [j4] using ho) j hj)⟩
 |arr s els=>exact hat| log s els=>cases ho
 |lent s els=>cases ho
 |mat s rows hs =>
  obtain⟨hp,h5,h6⟩:=hat;have hr:=uO (ren h) (.mat s rows hs);refine⟨?_,fun i j b hi hj=>h5 i j b ((hr i).2 hi) ((hr j).2 hj),fun i b hi=>h6 i b ((hr i).2 hi)⟩;rcases hp with⟨e1,e2,e3⟩|⟨b,vs,T,h1,h2,h3,h4,h7⟩
  ·refine .inl ⟨e1,e2,?_⟩;cases hs with
   |nil=>rfl| cons x r=>cases e3
  {exact .inr ⟨b,vs,T,h1,h2,h3,fun v k hk=>⟨(h4 _ k (aJ (ren h) hk)).1,zB0 (h4 _ k (aJ (ren h) hk)).2 (eS (by simpa only [j4] using ho) hk)⟩,fun i hi=>h7 i ((hr i).2 hi)⟩}
theorem zIN {L:List Nat}{n:Nat}{o:Obj'}(hL:∀ k,k∈L->βf (h k)=β' k)(hn:nmOb L o=true)(h0:βf (h n)=β' n)(h1:∀ i,βf.r (h n) i=β'.r n i)(hpub:∀ i,¬uZ o i)(hat:ObjAt w S β' n o):ObjAt w S βf (h n) (xD (ren h) o):=by
 cases o with
 |box cs =>
  obtain⟨b,vs,T,e1,e2,e3,e4⟩:=hat;exact⟨b,vs,T,by rw[h0];exact e1,e2,by rw[zH];exact e3,fun j hj=>by rw[zH] at hj;rw[z8 _ rfl];exact zA1 hL (e4 j hj) (xQ (by simpa only [nmOb] using hn) j hj)⟩
 |arr s els =>
  rcases hat with⟨e0,e⟩|⟨b,vs,T,e1,rest⟩;{exact .inl ⟨by rw[h0];exact e0,e⟩};{exact .inr ⟨b,vs,T,by rw[h0];exact e1,rest⟩}
 |log s els =>
  rcases hat with⟨e0,e⟩|⟨b,vs,T,e1,rest⟩;{exact .inl ⟨by rw[h0];exact e0,e⟩};{exact .inr ⟨b,vs,T,by rw[h0];exact e1,rest⟩}
 |lent s els =>
  obtain⟨hat,hst⟩:=hat;refine⟨?_,fun b hb i hi=>hst b (by rw[<-h0];exact hb) i hi⟩;rcases hat with⟨e0,e⟩|⟨b,vs,T,e1,rest⟩;{exact .inl ⟨by rw[h0];exact e0,e⟩};{exact .inr ⟨b,vs,T,by rw[h0];exact e1,rest⟩}
 |mat s rows hs =>
  obtain⟨hp,h5,h6⟩:=hat;have hr:=uO (ren h) (.mat s rows hs);refine⟨?_,fun i j b hi hj e1 e2=>h5 i j b ((hr i).1 hi) ((hr j).1 hj) (by rw[<-h1];exact e1) (by rw[<-h1];exact e2),fun i b hi e1=>by rw[h0];exact h6 i b ((hr i).1 hi) (by rw[<-h1];exact e1)⟩;rcases hp with⟨e1,e2,e3⟩|⟨b,vs,T,g1,g2,g3,g4,g7⟩;{subst e3;exact .inl ⟨by rw[h0];exact e1,e2,rfl⟩};{refine .inr ⟨b,vs,T,by rw[h0];exact g1,g2,g3,fun v k hk=>?_,fun i hi=>by rw[h1];exact g7 i ((hr i).1 hi)⟩;obtain⟨v',hk',rfl⟩:=pF _ hk;exact⟨(g4 v' k hk').1,zA1 hL (g4 v' k hk').2 (eS (by simpa only [nmOb] using hn) hk')⟩}
theorem zIM {o:Obj'}(hc:j4 o=true){i:Nat}:¬uZ o i:=by
 cases o with
 |box cs=>exact id| arr s els=>exact id| log s els=>cases hc
 |lent s els=>cases hc
 |mat s rows hs=>exact id
theorem f6 {n:Nat}{o:Obj'}{b:Nat}:Own (β.ren h) n o b↔Own β (h n) (xD (ren h) o) b:=by constructor;{rintro (e|⟨i,h1,h2⟩);{exact .inl e};{exact .inr ⟨i,(uO _ o i).2 h1,h2⟩}};{rintro (e|⟨i,h1,h2⟩);{exact .inl e};{exact .inr ⟨i,(uO _ o i).1 h1,h2⟩}}
theorem mX {ps:PS}:∀ {l:List (Nat×Obj')},aM h ps l=true->∀ {n o},(n,o)∈l->yE (h n) ps=true
 |(m,x)::r,H,n,o,hm=>by simp only[aM,Bool.and_eq_true] at H;simp only[List.mem_cons] at hm;rcases hm with hm|hm;{cases hm;exact H.1};{exact mX H.2 hm}
theorem l9:∀ {l:List (Nat×Obj')} {n:Nat},n∈cJ l->∃ o,(n,o)∈l
 |(m,x)::r,n,hm=>by simp only[cJ,List.mem_cons] at hm;rcases hm with hm|hm;{subst hm;exact⟨x,List.mem_cons_self⟩};{obtain⟨o,ho⟩:=l9 hm;exact⟨o,List.mem_cons_of_mem _ ho⟩}
theorem zF2:∀ {l:List Nat},(l.map h).Nodup->∀ {n m},n∈l->m∈l->h n=h m->n=m
 |x::r,hnd,n,m,hn,hm,e=>by simp only[List.map_cons,List.nodup_cons] at hnd;simp only[List.mem_cons] at hn hm;rcases hn with rfl|hn;{rcases hm with rfl|hm;{rfl};{exact absurd (List.mem_map.2 ⟨m,hm,e.symm⟩) hnd.1}};{rcases hm with rfl|hm;{exact absurd (List.mem_map.2 ⟨n,hn,e⟩) hnd.1};{exact zF2 hnd.2 hn hm e}}
theorem aI {l:List (Nat×Obj')}(hnd:((zW h l).map Prod.fst).Nodup){n m:Nat}{o o':Obj'}(hn:(n,o)∈l)(hm:(m,o')∈l)(e:h n=h m):n=m:=by rw[kC] at hnd;have h1:n∈l.map Prod.fst:=List.mem_map.2 ⟨_,hn,rfl⟩;have h2:m∈l.map Prod.fst:=List.mem_map.2 ⟨_,hm,rfl⟩;exact zF2 hnd h1 h2 e
section
variable {L:List Nat}
theorem Rep.free0 (hL:∀ m,m∉L->βf m=β m){v pv}(r:Rep w S β v pv)(hf:∀ d,d∈L->rf0 d pv=true):Rep w S βf v pv:=by
 have key:∀ m,(∀ d,d∈L->(!(nqb m d))=true)->βf m=β m:=fun m hm=>hL m fun hin=>by have:=hm m hin;simp at this
 cases r with
 |c hc h=>exact .c hc h| nil=>exact .nil| agg hl h =>
  cases L with
  |nil=>exact (by have e:∀ m,βf m=β m:=fun m=>hL m (by simp);exact .agg hl fun j hj=>(h j hj).place e)| cons d r=>have:=hf d List.mem_cons_self;simp[rf0] at this
 |tup hl h =>
  cases L with
  |nil=>exact (by have e:∀ m,βf m=β m:=fun m=>hL m (by simp);exact .tup hl fun j hj=>(h j hj).place e)| cons d r=>have:=hf d List.mem_cons_self;simp[rf0] at this
 |fn hl h =>
  cases L with
  |nil=>exact (by have e:∀ m,βf m=β m:=fun m=>hL m (by simp);exact .fn hl fun j hj=>(h j hj).place e)| cons d r=>have:=hf d List.mem_cons_self;simp[rf0] at this
 |ptr hβ=>exact .ptr (by rw[key _ fun d hd=>by simpa only [rf0] using hf d hd];exact hβ)| aptr hβ=>exact .aptr (by rw[key _ fun d hd=>by simpa only [rf0] using hf d hd];exact hβ)| dptr vals hSb hf' hc hr=>exact .dptr vals hSb hf' hc hr| osl hβ hlc hb hsz=>exact .osl (by rw[key _ fun d hd=>by simpa only [rf0] using hf d hd];exact hβ) hlc hb hsz| nilf=>exact .nilf| nilp=>exact .nilp| emp a=>exact .emp a| osl0 hβ ho hl=>exact .osl0 (by rw[key _ fun d hd=>by simpa only [rf0] using hf d hd];exact hβ) ho hl
theorem jI {p:Nat->PV->Bool}(hp:∀ d,p d .any=true){cs:List PV}(hf:∀ d,d∈L->yN (p d) cs=true)(j:Nat):∀ d,d∈L->p d (cs.getD j .any)=true:=fun d hd=>y6 (hp d) (hf d hd) j
theorem Rep.free1 (hL:∀ m,m∉L->βf m=β m){v pv}(r:Rep w S β v pv)(hf:∀ d,d∈L->rf1 d pv=true):Rep w S βf v pv:=by
 cases r with
 |agg hl h=>exact .agg hl fun j hj=>(h j hj).free0 hL (jI (fun _=>rfl) (fun d hd=>by simpa only [rf1] using hf d hd) j)| tup hl h=>exact .tup hl fun j hj=>(h j hj).free0 hL (jI (fun _=>rfl) (fun d hd=>by simpa only [rf1] using hf d hd) j)| fn hl h=>exact .fn hl fun j hj=>(h j hj).free0 hL (jI (fun _=>rfl) (fun d hd=>by simpa only [rf1] using hf d hd) j)| c hc h=>exact .c hc h| nil=>exact .nil| ptr hβ=>exact (Rep.ptr hβ).free0 hL hf| aptr hβ=>exact (Rep.aptr hβ).free0 hL hf| dptr vals hSb hf' hc hr=>exact .dptr vals hSb hf' hc hr| osl hβ hlc hb hsz=>exact (Rep.osl hβ hlc hb hsz).free0 hL hf| nilf=>exact .nilf| nilp=>exact .nilp| emp a=>exact .emp a| osl0 hβ ho hl=>exact (Rep.osl0 hβ ho hl).free0 hL hf
theorem Rep.free (hL:∀ m,m∉L->βf m=β m){v pv}(r:Rep w S β v pv)(hf:∀ d,d∈L->y7 d pv=true):Rep w S βf v pv:=by
 cases r with
 |agg hl h=>exact .agg hl fun j hj=>(h j hj).free1 hL (jI (fun _=>rfl) (fun d hd=>by simpa only [y7] using hf d hd) j)| tup hl h=>exact .tup hl fun j hj=>(h j hj).free1 hL (jI (fun _=>rfl) (fun d hd=>by simpa only [y7] using hf d hd) j)| fn hl h=>exact .fn hl fun j hj=>(h j hj).free1 hL (jI (fun _=>rfl) (fun d hd=>by simpa only [y7] using hf d hd) j)| c hc h=>exact .c hc h| nil=>exact .nil| ptr hβ=>exact (Rep.ptr hβ).free0 hL hf| aptr hβ=>exact (Rep.aptr hβ).free0 hL hf| dptr vals hSb hf' hc hr=>exact .dptr vals hSb hf' hc hr| osl hβ hlc hb hsz=>exact (Rep.osl hβ hlc hb hsz).free0 hL hf| nilf=>exact .nilf| nilp=>exact .nilp| emp a=>exact .emp a| osl0 hβ ho hl=>exact (Rep.osl0 hβ ho hl).free0 hL hf
theorem ObjAt.free {m:Nat}{o:Obj'}(hL:∀ m,m∉L->βf m=β m)(hm:m∉L)(hr:∀ i,βf.r m i=β.r m i)(hf:∀ d,d∈L->kX d o)(hat:ObjAt w S β m o):ObjAt w S βf m o:=by
 have e:=hL m hm;have hrow:∀ {s els},RowAt w S β m s els->RowAt w S βf m s els:=fun h=>by rcases h with⟨e0,e1⟩|⟨b,vs,T,e1,rest⟩;{exact .inl ⟨by rw[e];exact e0,e1⟩};{exact .inr ⟨b,vs,T,by rw[e];exact e1,rest⟩}
 cases o with
 |box cs =>
  obtain⟨b,vs,T,e1,e2,e3,e4⟩:=hat;exact⟨b,vs,T,by rw[e];exact e1,e2,e3,fun j hj=>(e4 j hj).free hL (jI (p:=y7) (fun _=>rfl) (fun d hd=>hf d hd) j)⟩
 |arr s els=>exact hrow hat| log s els=>exact hrow hat| lent s els=>exact⟨hrow hat.1,fun b hb i hi=>hat.2 b (by rw[<-e];exact hb) i hi⟩| mat s rows hs =>
  obtain⟨hp,h5,h6⟩:=hat;refine⟨?_,fun i j b hi hj e1 e2=>h5 i j b hi hj (by rw[<-hr];exact e1) (by rw[<-hr];exact e2),fun i b hi e1=>by rw[e];exact h6 i b hi (by rw[<-hr];exact e1)⟩;rcases hp with⟨e1,e2,e3⟩|⟨b,vs,T,g1,g2,g3,g4,g7⟩;{exact .inl ⟨by rw[e];exact e1,e2,e3⟩};{exact .inr ⟨b,vs,T,by rw[e];exact g1,g2,g3,fun v k hk=>⟨(g4 v k hk).1,(g4 v k hk).2.free hL fun d hd=>j6 (hf d hd) hk⟩,fun i hi=>by rw[hr];exact g7 i hi⟩}
end
theorem oZ:∀ {k l:List (Nat×Obj')} {m:Nat} {o:Obj'},(l.map Prod.fst).Nodup->(∀ n x,(n,x)∈k->h n∈l.map Prod.fst)->((zW h k).map Prod.fst).Nodup->(m,o)∈fW h l k ->(∃ n o',(n,o')∈k/\m=h n/\o=xD (ren h) o')\/((m,o)∈l/\m∉(zW h k).map Prod.fst)
 |[],l,m,o,hnd,hin,hk,hm=>.inr ⟨hm,by simp[zW]⟩| (n,x)::r,l,m,o,hnd,hin,hk,hm=>by have hn:=hin n x List.mem_cons_self;simp only[zW,List.map_cons,List.nodup_cons] at hk;simp only[fW] at hm;have hnm:(setO l (h n) (xD (ren h) x)).map Prod.fst=l.map Prod.fst:=wU hn;rcases oZ (k:=r) (by rw[hnm];exact hnd) (fun k y hk=>by rw[hnm];exact hin k y (List.mem_cons_of_mem _ hk)) hk.2 hm with⟨k,y,h1,h2⟩|⟨h1,h2⟩;{exact .inl ⟨k,y,List.mem_cons_of_mem _ h1,h2⟩};{rcases xK hnd hn h1 with⟨rfl,rfl⟩|⟨h3,h4⟩;{exact .inl ⟨n,x,List.mem_cons_self,rfl,rfl⟩};{exact .inr ⟨h4,by simp only[zW,List.map_cons,List.mem_cons,not_or];exact⟨h3,h2⟩⟩}}
theorem mR:∀ {k l:List (Nat×Obj')},(∀ n x,(n,x)∈k->h n∈l.map Prod.fst)->(fW h l k).map Prod.fst=l.map Prod.fst
 |[],l,_=>rfl| (n,x)::r,l,hin=>by have hn:=hin n x List.mem_cons_self;have hnm:(setO l (h n) (xD (ren h) x)).map Prod.fst=l.map Prod.fst:=wU hn;simp only[fW];rw[mR (k:=r) (fun k y hk=>by rw[hnm];exact hin k y (List.mem_cons_of_mem _ hk)),hnm]
theorem nM {l k:List (Nat×Obj')}(e:l.map Prod.fst=k.map Prod.fst){n:Nat}{o:Obj'}(hm:(n,o)∈l):∃ o',(n,o')∈k:=by
 have h1:n∈k.map Prod.fst:=by rw[<-e];exact List.mem_map.2 ⟨_,hm,rfl⟩
 obtain⟨⟨m,o'⟩,h2,h3⟩:=List.mem_map.1 h1;simp only at h3;subst h3;exact⟨o',h2⟩
theorem oW {f:PV->PV}{o:Obj'}(hc:j4 o=true){i:Nat}:¬uZ (xD f o) i:=by
 cases o with
 |box cs=>exact id| arr s els=>exact id| log s els=>cases hc
 |lent s els=>cases hc
 |mat s rows hs=>exact id
theorem ObjAt.map {f:PV->PV}{m:Nat}{o:Obj'}(hf:f .any=.any)(hr:∀ v x,Rep w S β v x->Rep w S β v (f x))(h:ObjAt w S β m o):ObjAt w S β m (xD f o):=by
 cases o with
 |box cs =>
  obtain⟨b,vs,T,e1,e2,e3,e4⟩:=h;exact⟨b,vs,T,e1,e2,by rw[zH];exact e3,fun j hj=>by rw[zH] at hj;rw[z8 _ hf];exact hr _ _ (e4 j hj)⟩
 |arr s els=>exact h| log s els=>exact h| lent s els=>exact h| mat s rows hs=>exact MatAt.map h (fun _ _ h=>h) fun v x k _ hv=>hr v x hv
theorem rZ {f:PV->PV}{n:Nat}(hf:∀ v,y7 n (f v)=true):∀ hs:List (PV×(Unit->Nat)),fB n (qH f hs)=true
 |[]=>rfl| (v,k)::r=>by simp only[qH,fB,hf,rZ hf r];rfl
theorem n7 {c:PV}(hc:sJ c=true):ren h c=c/\lv c=true/\∀ l,nmIn l c=true:=by cases c <;> simp[sJ,kQ] at hc <;> exact⟨rfl,rfl,fun _=>rfl⟩
theorem eG {o:Obj'}(hc:tB o=true):xD (ren h) o=o:=by
 cases o with
 |box cs =>
  show Obj'.box (x6 (ren h) cs)=_;have:∀ l:List PV,yN sJ l=true->x6 (ren h) l=l:=by
   intro l;induction l with
   |nil=>intro _;rfl
   |cons c r ih=>intro hl;simp only[yN,Bool.and_eq_true] at hl;simp only[x6,(n7 hl.1).1,ih hl.2]
  rw[this cs hc]
 |mat s rows hs =>
  cases hs with
  |nil=>rfl| cons x r=>cases hc
 |_=>rfl
theorem m5 {o:Obj'}(hc:tB o=true):j4 o=true:=by
 cases o with
 |box cs =>
  have:∀ l:List PV,yN sJ l=true->yN lv l=true:=by
   intro l;induction l with
   |nil=>intro _;rfl
   |cons c r ih=>intro hl;simp only[yN,Bool.and_eq_true] at hl ⊢;exact⟨(n7 (h:=id) hl.1).2.1,ih hl.2⟩
  exact this cs hc
 |arr s els=>rfl| log s els=>cases hc
 |lent s els=>cases hc
 |mat s rows hs =>
  cases hs with
  |nil=>rfl| cons x r=>cases hc
theorem zHK {o:Obj'}{l:List Nat}(hc:tB o=true):nmOb l o=true:=by
 cases o with
 |box cs =>
  have:∀ k:List PV,yN sJ k=true->yN (nmIn l) k=true:=by
   intro k;induction k with
   |nil=>intro _;rfl
   |cons c r ih=>intro hl;simp only[yN,Bool.and_eq_true] at hl ⊢;exact⟨(n7 (h:=id) hl.1).2.2 l,ih hl.2⟩
  exact this cs hc
 |mat s rows hs =>
  cases hs with
  |nil=>rfl| cons x r=>cases hc
 |_=>rfl
theorem zNQ {l:List (Nat×Obj')}(hinj:∀ n o m o',(n,o)∈l->(m,o')∈l->h n=h m->n=m)(β β':Bm):∃ βf:Bm,(∀ n o,(n,o)∈l->βf (h n)=β' n)/\(∀ n o i,(n,o)∈l->βf.r (h n) i=β'.r n i) /\ (∀ m,(∀ n o,(n,o)∈l->h n≠m)->βf m=β m)/\∀ m i,(∀ n o,(n,o)∈l->h n≠m)->βf.r m i=β.r m i:=by
 classical
 refine⟨⟨fun m=>if e:∃ n o,(n,o)∈l/\h n=m then β' (Classical.choose e) else β m,fun m i=>if e:∃ n o,(n,o)∈l/\h n=m then β'.r (Classical.choose e) i else β.r m i⟩,fun n o hm=>?_,fun n o i hm=>?_,fun m hno=>?_,fun m i hno=>?_⟩;{have e:∃ k o,(k,o)∈l/\h k=h n:=⟨n,o,hm,rfl⟩;obtain⟨o',h1,h2⟩:=Classical.choose_spec e;show (if e:∃ k o,(k,o)∈l/\h k=h n then β' (Classical.choose e) else β (h n))=β' n;rw[dif_pos e,hinj _ _ _ _ h1 hm h2]};{have e:∃ k o,(k,o)∈l/\h k=h n:=⟨n,o,hm,rfl⟩;obtain⟨o',h1,h2⟩:=Classical.choose_spec e;show (if e:∃ k o,(k,o)∈l/\h k=h n then β'.r (Classical.choose e) i else β.r (h n) i)=β'.r n i;rw[dif_pos e,hinj _ _ _ _ h1 hm h2]};{exact dif_neg fun⟨n,o,h1,h2⟩=>hno n o h1 h2};{exact dif_neg fun⟨n,o,h1,h2⟩=>hno n o h1 h2}
theorem eI {o:Oper}{c:Call}{f:Operand}(hop:o.op=.call c)(hcl:c.callee=.value f){Km:Act->World->Prop}{Q:Exit->Act->World->Prop}(hs:Sim w0 S0 K0 N τ objs a w S β) {g:FuncId} {caps:List PV} (hf:ev τ f=.fn g caps) {cargs:List PV} {kept eaten:List (Nat×Obj')} {r:PV} {kept' made:List (Nat×Obj')} (hle:LeL (evs (ev τ) c.args.toList++caps) (m9 h cargs)) (hso:Sound g cargs kept eaten r kept' made) (hobj:v5 h objs (kept++eaten)) (hnd1:ndO (zW h (kept++eaten))=true) (hnd2:ndO (kept++eaten)=true) (hclo:dB (cJ (kept'++made)) (kept'++made)=true) (hnd3:ndO (zW h made)=true) (hfr:∀ {n o},(n,o)∈made->(∀ t,y7 (h n) (jS ((zW h eaten).map Prod.fst) (τ t))=true)/\xA (h n) (yS (jS ((zW h eaten).map Prod.fst)) (qB ((zW h eaten).map Prod.fst) objs))=true) (hlv:yN lv cargs=true) (hlr:lv r=true) (hnm:nmIn (cJ (kept'++made)) r=true) (hk:∀ w' S' β' v,Sim w0 S0 K0 N (fun t=>jS ((zW h eaten).map Prod.fst) (τ t)) (fW h (yS (jS ((zW h eaten).map Prod.fst)) (qB ((zW h eaten).map Prod.fst) objs)) kept'++zW h made) a w' S' β'->Rep w' S' β' v (ren h r)->Km (a.put o.dst v) w'):o.wp Pg a w Km Q:=by
 have hfv:=hs.eval f;rw[hf] at hfv;obtain⟨vs,hv,hl,hr⟩:=kT hfv;have hargs:=((nO (fun x=>hs.eval x) c.args.toList).append ⟨hl,hr⟩).le hle;have hnodup1:=uT hnd1;have hmemo:∀ {n x},(n,x)∈kept++eaten->(h n,xD (ren h) x)∈objs/\j4 x=true:=fun hm=>bV hobj hm;have hblk:∀ b,Blk (β.ren h) (kept++eaten) b->(∀ i,¬S b i)/\b<w.heap.size/\(w0.heap.size<=b\/K0 b):=by rintro b ⟨n,x,hm,hβ⟩;obtain⟨h1,h2⟩:=hmemo hm;have hβ':=f6.1 hβ;exact⟨fun i hS=>oW h2 ((hs.obj.un _ _ b h1 hβ').1 i hS),(hs.obj.un _ _ b h1 hβ').2,hs.own _ _ b h1 hβ'⟩
 have hobjs:ObjsAt w S (β.ren h) (kept++eaten):=⟨uT hnd2,fun n x hm=>zFQ (hmemo hm).2 (hs.obj.at_ _ _ (hmemo hm).1),fun n x b hm hβ=>⟨fun i hS=>absurd hS ((hblk b ⟨n,x,hm,hβ⟩).1 i),(hblk b ⟨n,x,hm,hβ⟩).2.1⟩,
  fun n x m y b hm hm' hβ hβ'=>aI hnodup1 hm hm' (hs.obj.inj _ _ _ _ b (hmemo hm).1 (hmemo hm').1 (f6.1 hβ) (f6.1 hβ'))⟩
 have hlen:(m9 h cargs).length=cargs.length:=zH _ _;unfold Oper.wp;rw[bE hop hcl hv hso.isf,Oper.upon_enter];refine (hso.go w S (β.ren h) _ hs.ld.bnd hobjs (by rw[hargs.1,hlen]) (fun j hj=>zB0 (by have:=hargs.2 j (by rw[hlen];exact hj);rwa [m9,z8 _ rfl] at this) (xQ hlv j hj))).mono ?_;rintro e w' ⟨v,S',β',rfl,l,hrep,ho',hnk,hβk,hmd⟩;show Km (a.put o.dst v) w';have hevo:Evo S w w':=⟨fun b i hS=>jQ (l.same b (hs.ld.bnd b i hS) fun hb=>(hblk b hb).1 i hS) i,l.shape⟩;have hsub:∀ b i,S b i->S' b i:=l.subs hs.ld.bnd;have hld:Leads w0 S0 K0 w' S':=by refine⟨Nat.le_trans hs.ld.size l.size,l.os.trans hs.ld.os,l.tape.trans hs.ld.tape,l.output.trans hs.ld.output,fun b hb hk=>?_,fun b us U hb=>?_,l.bnd,fun b i hb hS=>hsub b i (hs.ld.sub b i hb hS),fun b i hb hk hS=>?_⟩;{have hb':=Nat.lt_of_lt_of_le hb hs.ld.size;rw[l.same b hb' fun hx=>by rcases (hblk b hx).2.2 with h'|h';omega;exact hk h'];exact hs.ld.same b hb hk};{obtain⟨us',e1,e2⟩:=hs.ld.shape b us U hb;obtain⟨us'',e3,e4⟩:=l.shape b us' U e1;exact⟨us'',e3,e4.trans e2⟩};{have hb':=Nat.lt_of_lt_of_le hb hs.ld.size;exact hs.ld.old b i hb hk (l.old b i hb' (fun hx=>by rcases (hblk b hx).2.2 with h'|h';omega;exact hk h') hS)}
 
 have hmid:∀ {m x},(m,x)∈(yS (jS ((zW h eaten).map Prod.fst)) (qB ((zW h eaten).map Prod.fst) objs))->(∃ x',(m,x')∈objs/\x=xD (jS ((zW h eaten).map Prod.fst)) x')/\m∉(zW h eaten).map Prod.fst:=by intro m x hm;obtain⟨x',h1,h2⟩:=xO _ hm;obtain⟨h3,h4⟩:=iE h1;exact⟨⟨x',h3,h2⟩,h4⟩
 have hkin:∀ n x,(n,x)∈kept->h n∈((yS (jS ((zW h eaten).map Prod.fst)) (qB ((zW h eaten).map Prod.fst) objs))).map Prod.fst:=by
  (intro n x hm;have h1:=(hmemo (List.mem_append_left eaten hm)).1;have h2:h n∉(zW h eaten).map Prod.fst:=by intro hx;obtain⟨⟨m,y⟩,h3,h4⟩:=List.mem_map.1 hx;simp only at h4;rw[dC,List.map_append,List.nodup_append] at hnodup1;exact hnodup1.2.2 (h n) (List.mem_map.2 ⟨_,vZ.2 ⟨n,x,hm,rfl,rfl⟩,rfl⟩) m (List.mem_map.2 ⟨_,h3,rfl⟩) h4.symm);exact List.mem_map.2 ⟨_,dS (jS ((zW h eaten).map Prod.fst)) (o3 h1 h2),rfl⟩
 have hkin':∀ n x,(n,x)∈kept'->h n∈((yS (jS ((zW h eaten).map Prod.fst)) (qB ((zW h eaten).map Prod.fst) objs))).map Prod.fst:=by intro n x hm;obtain⟨x',h1⟩:=nM hnk hm;exact hkin n x' h1
 have hmnd:((yS (jS ((zW h eaten).map Prod.fst)) (qB ((zW h eaten).map Prod.fst) objs)).map Prod.fst).Nodup:=by simp only[kB];exact (eC _ _).nodup hs.obj.nd
 have hknd:((zW h kept').map Prod.fst).Nodup:=by rw[kC,hnk,<-kC];rw[dC,List.map_append,List.nodup_append] at hnodup1;exact hnodup1.1
 have hset:∀ {m x},(m,x)∈fW h (yS (jS ((zW h eaten).map Prod.fst)) (qB ((zW h eaten).map Prod.fst) objs)) kept'->(∃ n o',(n,o')∈kept'/\m=h n/\x=xD (ren h) o')\/((m,x)∈(yS (jS ((zW h eaten).map Prod.fst)) (qB ((zW h eaten).map Prod.fst) objs))/\m∉(zW h kept').map Prod.fst) :=
  fun hm=>oZ hmnd hkin' hknd hm
 have hβk':∀ n x,(n,x)∈kept'->β' n=β (h n):=by intro n x hm;obtain⟨x',h1⟩:=nM hnk hm;exact hβk n x' h1
 have hnew:∀ {n o m x},(n,o)∈made->(m,x)∈(yS (jS ((zW h eaten).map Prod.fst)) (qB ((zW h eaten).map Prod.fst) objs))->m≠h n:=fun hm hx=>(yA (hfr hm).2 hx).1;have hkm:∀ {n o m o'},(n,o)∈made->(m,o')∈kept'->h m≠h n:=fun hm hx e=>by obtain⟨⟨q,y⟩,q1,q2⟩:=List.mem_map.1 (hkin' _ _ hx);exact hnew hm q1 (by rw[<-e];exact q2)
 have hinj:∀ n o m o',(n,o)∈kept'++made->(m,o')∈kept'++made->h n=h m->n=m:=fun n o m o' hm hm' e=>by
  (rcases List.mem_append.1 hm with h1|h1 <;> rcases List.mem_append.1 hm' with h2|h2);{exact aI hknd h1 h2 e}
  {exact absurd e (hkm h2 h1)};{exact absurd e.symm (hkm h1 h2)};{exact aI (uT hnd3) h1 h2 e}
 obtain⟨βf,hf1,hf2,hf3,hf4⟩:=zNQ hinj β β';have hno:∀ {m},m∉(zW h kept').map Prod.fst->m∉(zW h made).map Prod.fst->∀ n o,(n,o)∈kept'++made->h n≠m:=fun h1 h2 n o hm e=>by rcases List.mem_append.1 hm with h3|h3;{exact h1 (List.mem_map.2 ⟨_,vZ.2 ⟨n,o,h3,rfl,rfl⟩,e⟩)};{exact h2 (List.mem_map.2 ⟨_,vZ.2 ⟨n,o,h3,rfl,rfl⟩,e⟩)}
 have hL:∀ m,m∉(zW h made).map Prod.fst->βf m=β m:=fun m hm=>by by_cases hk:m∈(zW h kept').map Prod.fst;{obtain⟨⟨q,y⟩,q1,q2⟩:=List.mem_map.1 hk;obtain⟨n,o,q3,q4,_⟩:=vZ.1 q1;simp only at q2;rw[<-q2,q4,hf1 n o (List.mem_append_left made q3),hβk' n o q3]};{exact hf3 m (hno hk hm)}
 have hmn:∀ {d},d∈(zW h made).map Prod.fst->∃ n o,(n,o)∈made/\d=h n:=fun hd=>by obtain⟨⟨q,y⟩,q1,q2⟩:=List.mem_map.1 hd;obtain⟨n,o,q3,q4,_⟩:=vZ.1 q1;simp only at q2;exact⟨n,o,q3,by rw[<-q2,q4]⟩
 have hnblk:∀ {m x' b},(m,x')∈objs->m∉(zW h eaten).map Prod.fst->m∉(zW h kept').map Prod.fst->Own β m x' b->¬Blk (β.ren h) (kept++eaten) b:=by rintro m x' b hm hne hnk' hβ ⟨n,y,hy,hβn⟩;have heq:=hs.obj.inj _ _ _ _ b hm (hmemo hy).1 hβ (f6.1 hβn);rcases List.mem_append.1 hy with hy|hy;{rw[kC,hnk,<-kC] at hnk';exact hnk' (List.mem_map.2 ⟨_,vZ.2 ⟨n,y,hy,rfl,rfl⟩,heq.symm⟩)};{exact hne (List.mem_map.2 ⟨_,vZ.2 ⟨n,y,hy,rfl,rfl⟩,heq.symm⟩)}
 have hall:∀ {m x},(m,x)∈fW h (yS (jS ((zW h eaten).map Prod.fst)) (qB ((zW h eaten).map Prod.fst) objs)) kept'++zW h made->(∃ n o',(n,o')∈kept'++made/\m=h n/\x=xD (ren h) o')\/((m,x)∈(yS (jS ((zW h eaten).map Prod.fst)) (qB ((zW h eaten).map Prod.fst) objs))/\m∉(zW h kept').map Prod.fst/\m∉(zW h made).map Prod.fst):=fun hm=>by rcases List.mem_append.1 hm with h1|h1;{rcases hset h1 with⟨n,o',h2,h3,h4⟩|⟨h2,h3⟩;{exact .inl ⟨n,o',List.mem_append_left made h2,h3,h4⟩};{refine .inr ⟨h2,h3,fun hd=>?_⟩;obtain⟨n,o,q1,q2⟩:=hmn hd;exact hnew q1 h2 q2}};{obtain⟨n,o',h2,h3,h4⟩:=vZ.1 h1;exact .inl ⟨n,o',List.mem_append_right kept' h2,h3,h4⟩}
 have hownF:∀ {n o b},(n,o)∈kept'++made->Own βf (h n) (xD (ren h) o) b->Own β' n o b:=fun hm hb=>by rcases hb with hb|⟨i,h1,h2⟩;{exact .inl (by rw[<-hf1 _ _ hm];exact hb)};{exact .inr ⟨i,(uO _ _ i).1 h1,by rw[<-hf2 _ _ i hm];exact h2⟩}
 have hownO:∀ {m x b},m∉(zW h kept').map Prod.fst->m∉(zW h made).map Prod.fst->Own βf m x b->Own β m x b:=fun h1 h2 hb=>by rcases hb with hb|⟨i,h3,h4⟩;{exact .inl (by rw[<-hf3 _ (hno h1 h2)];exact hb)};{exact .inr ⟨i,h3,by rw[<-hf4 _ i (hno h1 h2)];exact h4⟩}
 have hsim:Sim w0 S0 K0 N (fun t=>jS ((zW h eaten).map Prod.fst) (τ t)) (fW h (yS (jS ((zW h eaten).map Prod.fst)) (qB ((zW h eaten).map Prod.fst) objs)) kept'++zW h made) a w' S' βf:=by
  refine⟨hs.dfr,hs.sz,hld,fun t=>?_,⟨?_,?_,?_,?_⟩,?_,?_⟩;{have h1:Rep w' S' β (a.tmps.getD t undef) (jS ((zW h eaten).map Prod.fst) (τ t)):=lE _ ((hs.tmp t).evo hevo hsub);exact h1.free hL fun d hd=>by obtain⟨n,o,q1,rfl⟩:=hmn hd;exact (hfr q1).1 t};{rw[List.map_append,mR hkin',List.nodup_append];refine⟨hmnd,uT hnd3,fun x hx y hy e=>?_⟩;obtain⟨n,o,q1,q2⟩:=hmn hy;obtain⟨⟨q,z⟩,q3,q4⟩:=List.mem_map.1 hx;simp only at q4;exact hnew q1 q3 (by rw[q4,e,q2])};{intro m x hm;rcases hall hm with⟨n,o',h1,rfl,rfl⟩|⟨h1,h2,h3⟩;{obtain⟨g1,g2⟩:=lZ hclo h1;exact zIN (L:=cJ (kept'++made)) (fun k hk=>by obtain⟨y,hy⟩:=l9 hk;exact hf1 k y hy) g2 (hf1 n o' h1) (fun i=>hf2 n o' i h1) (fun i=>zIM g1) (ho'.at_ n o' h1)};{obtain⟨⟨x',h4,rfl⟩,h5⟩:=hmid h1;have hat:=((hs.obj.at_ m x' h4).evo hevo fun b hb=>l.same b (hs.obj.un _ _ b h4 hb).2 (hnblk h4 h5 h2 hb)).mono hsub;exact (hat.map (rR _) fun v x hx=>lE _ hx).free hL h3 (fun i=>hf4 m i (hno h2 h3)) fun d hd=>by obtain⟨n,o,q1,rfl⟩:=hmn hd;exact (yA (hfr q1).2 h1).2}};{intro m x b hm hβ;rcases hall hm with⟨n,o',h1,rfl,rfl⟩|⟨h1,h2,h3⟩;{obtain⟨g1,g2⟩:=ho'.un n o' b h1 (hownF h1 hβ);exact⟨fun i hS=>dP (g1 i hS),g2⟩};{obtain⟨⟨x',h4,rfl⟩,h5⟩:=hmid h1;have hb:=wI (hownO h2 h3 hβ);obtain⟨q1,q2⟩:=hs.obj.un m x' b h4 hb;exact⟨fun i hS=>dP (q1 i (l.old b i q2 (hnblk h4 h5 h2 hb) hS)),Nat.lt_of_lt_of_le q2 l.size⟩}}
  ·have cross:∀ {n o m x b},(n,o)∈kept'++made->Own β' n o b->(m,x)∈(yS (jS ((zW h eaten).map Prod.fst)) (qB ((zW h eaten).map Prod.fst) objs))->m∉(zW h kept').map Prod.fst->Own β m x b->False:=fun hn hb hm hk hb'=>by obtain⟨⟨x',h4,rfl⟩,h5⟩:=hmid hm;have hb'':=wI hb';rcases hmd _ _ _ hn hb with g|g;{have:=(hs.obj.un _ x' _ h4 hb'').2;omega};{exact hnblk h4 h5 hk hb'' g}
   (intro m x m' x' b hm hm' hβ hβ';rcases hall hm with⟨n,o',h1,rfl,rfl⟩|⟨h1,h2,h3⟩ <;> rcases hall hm' with⟨n',o'',h4,rfl,rfl⟩|⟨h4,h5,h6⟩);{rw[ho'.inj _ _ _ _ b h1 h4 (hownF h1 hβ) (hownF h4 hβ')]}
   {exact (cross h1 (hownF h1 hβ) h4 h5 (hownO h5 h6 hβ')).elim};{exact (cross h4 (hownF h4 hβ') h1 h2 (hownO h2 h3 hβ)).elim};{obtain⟨⟨y,h7,rfl⟩,_⟩:=hmid h1;obtain⟨⟨y',h8,rfl⟩,_⟩:=hmid h4;exact hs.obj.inj _ _ _ _ b h7 h8 (wI (hownO h2 h3 hβ)) (wI (hownO h5 h6 hβ'))}
  {intro m x b hm hβ;rcases hall hm with⟨n,o',h1,rfl,rfl⟩|⟨h1,h2,h3⟩;{rcases hmd n o' b h1 (hownF h1 hβ) with g|g;{exact .inl (Nat.le_trans hs.ld.size g)};{exact (hblk b g).2.2}};{obtain⟨⟨x',h4,rfl⟩,h5⟩:=hmid h1;exact hs.own m x' b h4 (wI (hownO h2 h3 hβ))}};{intro m x hm hb;rcases hall hm with⟨n,o',h1,rfl,rfl⟩|⟨h1,h2,h3⟩;{rcases List.mem_append.1 h1 with h2|h2;{obtain⟨x',h3⟩:=nM hnk h2;rw[hf1 n o' h1,hβk' n o' h2];exact hs.keep _ _ (hmemo (List.mem_append_left eaten h3)).1 hb};{have:=wG (hfr h2).2;omega}};{obtain⟨⟨x',h4,rfl⟩,h5⟩:=hmid h1;rw[hf3 m (hno h2 h3)];exact hs.keep m x' h4 hb}}
 have hfin:Rep w' S' βf v (ren h r):=zA1 (l:=cJ (kept'++made)) (fun n hn=>by obtain⟨x,hm⟩:=l9 hn;exact hf1 n x hm) hrep hnm;exact hk _ _ _ _ hsim hfin
theorem zBV {ps:PS}{o:Oper}{c:Call}{f:Operand}(hop:o.op=.call c)(hcl:c.callee=.value f)(hd:∀ t,o.dst=some t->t<N){K:PS->Prop}{Km:Act->World->Prop}{Q:Exit->Act->World->Prop}(hs:Sim w0 S0 K0 N (zB ps.tmps) ps.objs a w S β) {g:FuncId} {caps:List PV} (hf:ev (zB ps.tmps) f=.fn g caps) {cargs:List PV} {kept eaten:List (Nat×Obj')} {r:PV} {kept' made:List (Nat×Obj')} (hle:LeL (evs (ev (zB ps.tmps)) c.args.toList++caps) (m9 h cargs)) (hso:Sound g cargs kept eaten r kept' made) (hobj:v5 h ps.objs (kept++eaten)) (hnd1:ndO (zW h (kept++eaten))=true) (hnd2:ndO (kept++eaten)=true) (hclo:dB (cJ (kept'++made)) (kept'++made)=true) (hnd3:ndO (zW h made)=true) (hfree:aM h (sU h eaten ps) made=true) (hlv:yN lv cargs=true) (hlr:lv r=true) (hnm:nmIn (cJ (kept'++made)) r=true) (hK:K (put (aH h eaten kept' made ps) o.dst (ren h r))) (hk:∀ ps' a' w' S' β',K ps'->Sim w0 S0 K0 N (zB ps'.tmps) ps'.objs a' w' S' β'->Km a' w'):o.wp Pg a w Km Q:=by
 refine eI hop hcl hs hf hle hso hobj hnd1 hnd2 hclo hnd3 (fun hm=>?_) hlv hlr hnm fun w' S' β' v hsim hfin=>?_;{have:=mX hfree hm;simp only[yE,sU,Bool.and_eq_true] at this;refine⟨fun t=>?_,this.2⟩;rw[<-uE _ (rR _)];exact xZ this.1 t}
 ·(have e:(fun t=>jS ((zW h eaten).map Prod.fst) (zB ps.tmps t))=zB (aH h eaten kept' made ps).tmps:=by funext t;exact (uE _ (rR _) _ _).symm);rw[e] at hsim;exact hk _ _ _ _ _ hK (x5 (ps:=aH h eaten kept' made ps) hsim o.dst hd hfin)
theorem zFV:∀ (l:List PV),x6 (fun v=>v) l=l
 |[]=>rfl| v::r=>by simp only[x6,zFV r]
theorem zFU:∀ (l:List (PV×(Unit->Nat))),qH (fun v=>v) l=l
 |[]=>rfl| (v,k)::r=>by simp only[qH,zFU r]
theorem zFS:∀ (l:List (Nat×Obj')),yS (fun v=>v) l=l
 |[]=>rfl| (n,o)::r=>by have:=zFS r;cases o <;> simp only[yS,zFV,zFU,this]
theorem oR:∀ {l:List (Nat×Obj')} {n:Nat} {o:Obj'},z7 l n=some o->setO l n o=l
 |[],n,o,h=>by cases h
 |(u,x)::r,n,o,h=>by
  simp only[z7] at h;simp only[setO];cases hu:nqb u n with
  |true =>
   rw[hu] at h;simp only[Option.some.injEq] at h;rw[h,yC hu]
  |false =>
   rw[hu] at h;simp only;rw[oR h]
theorem lD:∀ {kept l:List (Nat×Obj')},v5 h l kept->fW h l kept=l
 |[],l,_=>rfl| (n,o)::r,l,H=>by simp only[fW];rw[oR H.1.1];exact lD H.2
theorem zBW {o:Oper}{c:Call}{f:Operand}(hop:o.op=.call c)(hcl:c.callee=.value f){Km:Act->World->Prop}{Q:Exit->Act->World->Prop}(hs:Sim w0 S0 K0 N τ objs a w S β) {g:FuncId} {caps:List PV} (hf:ev τ f=.fn g caps) {cargs:List PV} {kept:List (Nat×Obj')} {r:PV} (hle:LeL (evs (ev τ) c.args.toList++caps) (m9 h cargs)) (hso:Sound g cargs kept [] r kept []) (hobj:v5 h objs kept) (hnd1:ndO (zW h kept)=true) (hnd2:ndO kept=true) (hclo:dB (cJ kept) kept=true) (hlv:yN lv cargs=true) (hlr:lv r=true) (hnm:nmIn (cJ kept) r=true) (hk:∀ w' S' β' v,Sim w0 S0 K0 N τ objs a w' S' β'->Rep w' S' β' v (ren h r)->Km (a.put o.dst v) w'):o.wp Pg a w Km Q:=by
 refine eI (eaten:=[]) (made:=[]) hop hcl hs hf hle hso (by rw[List.append_nil];exact hobj) (by rw[List.append_nil];exact hnd1) (by rw[List.append_nil];exact hnd2) (by rw[List.append_nil];exact hclo) rfl (fun hm=>by cases hm) hlv hlr (by rw[List.append_nil];exact hnm) fun w' S' β' v hsim hfin=>?_;have e:fW h (yS (jS ((zW h []).map Prod.fst)) (qB ((zW h []).map Prod.fst) objs)) kept++zW h []=objs:=by show fW h (yS (fun v=>v) objs) kept++[]=objs;rw[List.append_nil,zFS,lD hobj]
 rw[e] at hsim;exact hk _ _ _ _ hsim hfin
end
end Go.Proofs.YtfainocfaddbdaaGreat
