/- A part of the proof: PmM, PmN. -/
import Derived.Test.YtgcpehdkdnkgeaaGreatV09
set_option linter.all false
namespace Go.Proofs.YtgcpehdkdnkgeaaGreat
open Go
section
variable {w0:World} {S0:Nat→Nat→Prop} {K0:Nat→Prop} {N:Cx} {τ:Nat→PV} {objs:List (Nat × Obj')} {a:Act} {w w':World} {S S':Nat→Nat→Prop} {β β' βf:Nat→Option Nat} {h:Nat→Nat}
theorem tE {v pv}(r:Rep w S β v (rn0 h pv))(hl:lv0 pv=true):Rep w S (fun n=>β (h n)) v pv:=by
 cases pv with
 | agg cs=>simp [lv0] at hl
 | tup cs=>simp [lv0] at hl
 | fn f cs=>simp [lv0] at hl
 | ptr m off=>obtain⟨b,hβ,rfl⟩:=kP r;exact .ptr hβ
 | aptr m s i off=>obtain⟨b,hβ,rfl⟩:=j2 r;exact .aptr hβ
 | osl m s i len =>
  rcases gQ r with ⟨hn,ho,hl,aa,rfl⟩ | ⟨b,cap,vs,T,hβ,hlc,hw,hsz,rfl⟩
  ·exact .osl0 hn ho hl
  ·exact .osl hβ hlc hw hsz
 | nil=>obtain⟨aa,rfl⟩:=uL r;exact .nil aa
 | dptr cs o=>obtain⟨b,o',vals,hS,rfl,hf,hc,hr⟩:=fI r;exact .dptr vals hS hf hc hr
 | nilf=>cases r with | c hf h=>cases hf | nilf=>exact .nilf
 | _=>exact .c rfl (tD r rfl)
theorem zBV {v pv}(r:Rep w S β v (rn1 h pv))(hl:lv1 pv=true):Rep w S (fun n=>β (h n)) v pv:=by
 cases pv with
 | agg cs =>
  obtain⟨vs,rfl,h1,h2⟩:=v9 r
  rw[zL] at h1
  exact .agg h1 fun j hj=>tE (by have:=h2 j (by rw[zL];exact hj);rwa [yC _ rfl] at this) (xY (by simpa only [lv1] using hl) j hj)
 | tup cs =>
  obtain⟨vs,rfl,h1,h2⟩:=kO r
  rw[zL] at h1
  exact .tup h1 fun j hj=>tE (by have:=h2 j (by rw[zL];exact hj);rwa [yC _ rfl] at this) (xY (by simpa only [lv1] using hl) j hj)
 | fn f cs =>
  obtain⟨vs,rfl,h1,h2⟩:=kQ r
  rw[zL] at h1
  exact .fn h1 fun j hj=>tE (by have:=h2 j (by rw[zL];exact hj);rwa [yC _ rfl] at this) (xY (by simpa only [lv1] using hl) j hj)
 | _=>exact tE r rfl
theorem zLC {v pv}(r:Rep w S β v (ren h pv))(hl:lv pv=true):Rep w S (fun n=>β (h n)) v pv:=by
 cases pv with
 | agg cs =>
  obtain⟨vs,rfl,h1,h2⟩:=v9 r
  rw[zL] at h1
  exact .agg h1 fun j hj=>zBV (by have:=h2 j (by rw[zL];exact hj);rwa [yC _ rfl] at this) (xY (by simpa only [lv] using hl) j hj)
 | tup cs =>
  obtain⟨vs,rfl,h1,h2⟩:=kO r
  rw[zL] at h1
  exact .tup h1 fun j hj=>zBV (by have:=h2 j (by rw[zL];exact hj);rwa [yC _ rfl] at this) (xY (by simpa only [lv] using hl) j hj)
 | fn f cs =>
  obtain⟨vs,rfl,h1,h2⟩:=kQ r
  rw[zL] at h1
  exact .fn h1 fun j hj=>zBV (by have:=h2 j (by rw[zL];exact hj);rwa [yC _ rfl] at this) (xY (by simpa only [lv] using hl) j hj)
 | _=>exact tE r rfl
theorem aQ {l:List Nat}(hl':∀ n,n∈l→βf (h n)=β' n){v pv}(r:Rep w S β' v pv)(hn:nm0 l pv=true):Rep w S βf v (rn0 h pv):=by
 cases pv with
 | agg cs=>simp [nm0] at hn
 | tup cs=>simp [nm0] at hn
 | fn f cs=>simp [nm0] at hn
 | ptr m off=>obtain⟨b,hβ,rfl⟩:=kP r;exact .ptr (by rw[hl' _ (wN (by simpa only [nm0] using hn))];exact hβ)
 | aptr m s i off=>obtain⟨b,hβ,rfl⟩:=j2 r;exact .aptr (by rw[hl' _ (wN (by simpa only [nm0] using hn))];exact hβ)
 | osl m s i len =>
  have e:=hl' _ (wN (by simpa only [nm0] using hn))
  rcases gQ r with ⟨hn,ho,hl,aa,rfl⟩ | ⟨b,cap,vs,T,hβ,hlc,hw,hsz,rfl⟩
  ·exact .osl0 (by rw[e];exact hn) ho hl
  ·exact .osl (by rw[e];exact hβ) hlc hw hsz
 | nil=>obtain⟨aa,rfl⟩:=uL r;exact .nil aa
 | dptr cs o=>obtain⟨b,o',vals,hS,rfl,hf,hc,hr⟩:=fI r;exact .dptr vals hS hf hc hr
 | nilf=>cases r with | c hf h=>cases hf | nilf=>exact .nilf
 | _=>exact .c rfl (tD r rfl)
theorem eE {l:List Nat}(hl':∀ n,n∈l→βf (h n)=β' n){v pv}(r:Rep w S β' v pv)(hn:nm1 l pv=true):Rep w S βf v (rn1 h pv):=by
 cases pv with
 | agg cs =>
  obtain⟨vs,rfl,h1,h2⟩:=v9 r
  exact .agg (by rw[zL];exact h1) fun j hj=>by rw[zL] at hj;rw[yC _ rfl];exact aQ hl' (h2 j hj) (xY (by simpa only [nm1] using hn) j hj)
 | tup cs =>
  obtain⟨vs,rfl,h1,h2⟩:=kO r
  exact .tup (by rw[zL];exact h1) fun j hj=>by rw[zL] at hj;rw[yC _ rfl];exact aQ hl' (h2 j hj) (xY (by simpa only [nm1] using hn) j hj)
 | fn f cs =>
  obtain⟨vs,rfl,h1,h2⟩:=kQ r
  exact .fn (by rw[zL];exact h1) fun j hj=>by rw[zL] at hj;rw[yC _ rfl];exact aQ hl' (h2 j hj) (xY (by simpa only [nm1] using hn) j hj)
 | _=>exact aQ hl' r hn
theorem zNT {l:List Nat}(hl':∀ n,n∈l→βf (h n)=β' n){v pv}(r:Rep w S β' v pv)(hn:nmIn l pv=true):Rep w S βf v (ren h pv):=by
 cases pv with
 | agg cs =>
  obtain⟨vs,rfl,h1,h2⟩:=v9 r
  exact .agg (by rw[zL];exact h1) fun j hj=>by rw[zL] at hj;rw[yC _ rfl];exact eE hl' (h2 j hj) (xY (by simpa only [nmIn] using hn) j hj)
 | tup cs =>
  obtain⟨vs,rfl,h1,h2⟩:=kO r
  exact .tup (by rw[zL];exact h1) fun j hj=>by rw[zL] at hj;rw[yC _ rfl];exact eE hl' (h2 j hj) (xY (by simpa only [nmIn] using hn) j hj)
 | fn f cs =>
  obtain⟨vs,rfl,h1,h2⟩:=kQ r
  exact .fn (by rw[zL];exact h1) fun j hj=>by rw[zL] at hj;rw[yC _ rfl];exact eE hl' (h2 j hj) (xY (by simpa only [nmIn] using hn) j hj)
 | _=>exact aQ hl' r hn
theorem s9 {n m:Nat}{o:Obj'}(hc:wO o=true)(hat:ObjAt w S β' n o)(he:β m=β' n):ObjAt w S β m o:=by
 cases o with
 | box cs =>
  obtain⟨b,vs,T,e1,e2,e3,e4⟩:=hat
  refine⟨b,vs,T,by rw[he];exact e1,e2,e3,fun j hj=>?_⟩
  have hs:=xY (by simpa only [wO] using hc) j hj
  have hr:=e4 j hj
  generalize hx:cs.getD j .any=x at hs hr ⊢
  cases x with
  | nil=>obtain⟨aa,hv⟩:=uL hr;rw[hv];exact .nil aa
  | _=>first | (simp [iL,v4] at hs;done) | exact .c rfl (tD hr rfl)
 | arr s els =>
  rcases hat with ⟨e0,e⟩ | ⟨b,vs,T,e1,rest⟩
  ·exact .inl ⟨by rw[he];exact e0,e⟩
  ·exact .inr ⟨b,vs,T,by rw[he];exact e1,rest⟩
 | log s els=>cases hc
 | lent s els=>cases hc
theorem oV {o:Obj'}(hc:wO o=true){i:Nat}:¬ gI o i:=by
 cases o with
 | box cs=>exact id
 | arr s els=>exact id
 | log s els=>cases hc
 | lent s els=>cases hc
theorem mI (n:Nat):∀ {cs:List PV},yT iL cs=true→xW n cs=true
 | [],_=>rfl
 | c::cs,h=>by
  simp only[yT,Bool.and_eq_true] at h
  simp only[xW,yT,Bool.and_eq_true]
  exact⟨by cases c <;> simp_all [iL,v4,wS,rf0],mI n h.2⟩
theorem sD {n:Nat}{o:Obj'}(hc:wO o=true):jY n o:=by
 cases o with
 | box cs=>exact mI n hc
 | arr s els=>trivial
 | log s els=>trivial
 | lent s els=>trivial
theorem uN {n:Nat}(hn:n<1000000):∀ {l:List (Nat × Obj')},(∀ m o,(m,o)∈l→m≠n∧jY n o)→xJ n l=true
 | [],_=>by simp [xJ,nlt];omega
 | (m,.box cs)::r,h=>by
  have h1:=h m _ List.mem_cons_self
  simp only[xJ,Bool.and_eq_true]
  exact⟨⟨by rw[nbeq h1.1];rfl,h1.2⟩,uN hn fun m o hm=>h m o (List.mem_cons_of_mem _ hm)⟩
 | (m,.arr s els)::r,h=>by
  have h1:=h m _ List.mem_cons_self
  simp only[xJ,Bool.and_eq_true]
  exact⟨by rw[nbeq h1.1];rfl,uN hn fun m o hm=>h m o (List.mem_cons_of_mem _ hm)⟩
 | (m,.log s els)::r,h=>by
  have h1:=h m _ List.mem_cons_self
  simp only[xJ,Bool.and_eq_true]
  exact⟨by rw[nbeq h1.1];rfl,uN hn fun m o hm=>h m o (List.mem_cons_of_mem _ hm)⟩
 | (m,.lent s els)::r,h=>by
  have h1:=h m _ List.mem_cons_self
  simp only[xJ,Bool.and_eq_true]
  exact⟨by rw[nbeq h1.1];rfl,uN hn fun m o hm=>h m o (List.mem_cons_of_mem _ hm)⟩
theorem iR:∀ (l:List Nat) {v pv},Rep w S β v pv→Rep w S β v (scrs l pv)
 | [],v,pv,h=>h
 | n::r,v,pv,h=>iR r (zBP h)
theorem iS:∀ (l:List Nat),scrs l .any=.any
 | []=>rfl
 | n::r=>iS r
theorem eO:∀ {l:List Nat} {objs:List (Nat × Obj')} {m:Nat} {o:Obj'},(m,o)∈bW l objs→(m,o)∈objs∧m ∉ l
 | [],objs,m,o,h=>⟨h,by simp⟩
 | n::r,objs,m,o,h=>by
  obtain⟨h1,h2⟩:=eO (l:=r) h
  obtain⟨h3,h4⟩:=wE h1
  exact⟨h3,by simp [h2,h4]⟩
theorem oO:∀ (l:List Nat) (objs:List (Nat × Obj')),((bW l objs).map Prod.fst).Sublist (objs.map Prod.fst)
 | [],objs=>List.Sublist.refl _
 | n::r,objs=>(oO r _).trans (sA _ _)
theorem sQ:∀ {l:List (Nat × Obj')} {n m:Nat} {o:Obj'},(m,o)∈l→m≠n→(m,o)∈wR l n
 | (u,x)::r,n,m,o,h,hne=>by
  simp only[wR]
  simp only[List.mem_cons] at h
  cases hu:nqb u n with
  | true =>
   have:=yN hu
   subst this
   simp only[cond_true]
   rcases h with h | h
   ·cases h;exact absurd rfl hne
   ·exact sQ h hne
  | false =>
   simp only[cond_false,List.mem_cons]
   rcases h with h | h
   ·exact .inl h
   ·exact .inr (sQ h hne)
theorem zAS:∀ {l:List Nat} {objs:List (Nat × Obj')} {m:Nat} {o:Obj'},(m,o)∈objs→m ∉ l→(m,o)∈bW l objs
 | [],objs,m,o,h,_=>h
 | n::r,objs,m,o,h,hn=>by
  simp only[List.mem_cons,not_or] at hn
  exact zAS (l:=r) (sQ h hn.1) hn.2
theorem cU (f:PV→PV):∀ {l:List (Nat × Obj')} {n:Nat} {o:Obj'},(n,o)∈l→∃ o',(n,o')∈xL f l
 | (m,.box cs)::r,n,o,h=>by
  simp only[List.mem_cons] at h
  rcases h with h | h
  ·cases h;exact⟨_,List.mem_cons_self⟩
  ·obtain⟨o',h'⟩:=cU f h;exact⟨o',List.mem_cons_of_mem _ h'⟩
 | (m,.arr s els)::r,n,o,h=>by
  simp only[List.mem_cons] at h
  rcases h with h | h
  ·cases h;exact⟨_,List.mem_cons_self⟩
  ·obtain⟨o',h'⟩:=cU f h;exact⟨o',List.mem_cons_of_mem _ h'⟩
 | (m,.log s els)::r,n,o,h=>by
  simp only[List.mem_cons] at h
  rcases h with h | h
  ·cases h;exact⟨_,List.mem_cons_self⟩
  ·obtain⟨o',h'⟩:=cU f h;exact⟨o',List.mem_cons_of_mem _ h'⟩
 | (m,.lent s els)::r,n,o,h=>by
  simp only[List.mem_cons] at h
  rcases h with h | h
  ·cases h;exact⟨_,List.mem_cons_self⟩
  ·obtain⟨o',h'⟩:=cU f h;exact⟨o',List.mem_cons_of_mem _ h'⟩
theorem uB:∀ {l:List (Nat × Obj')} {m:Nat} {o:Obj'},(m,o)∈y7 h l↔∃ n,(n,o)∈l∧m=h n
 | [],m,o=>by simp [y7]
 | (n,x)::r,m,o=>by
  simp only[y7,List.mem_cons,uB (l:=r)]
  constructor
  ·rintro (e | ⟨k,hk,e⟩)
   ·cases e;exact⟨n,.inl rfl,rfl⟩
   ·exact⟨k,.inr hk,e⟩
  ·rintro ⟨k,hk | hk,e⟩
   ·cases hk;exact .inl (by rw[e])
   ·exact .inr ⟨k,hk,e⟩
theorem jU:∀ (l k:List (Nat × Obj')),y7 h (l++k)=y7 h l++y7 h k
 | [],k=>rfl
 | (n,x)::r,k=>by simp [y7,jU r k]
theorem qQ:∀ (l:List (Nat × Obj')),(y7 h l).map Prod.fst=(l.map Prod.fst).map h
 | []=>rfl
 | (n,x)::r=>by simp [y7,qQ r]
theorem aW:∀ {l objs:List (Nat × Obj')},sY h objs l→∀ {n o},(n,o)∈l→(h n,o)∈objs∧wO o=true
 | (m,x)::r,objs,H,n,o,hm=>by
  simp only[List.mem_cons] at hm
  rcases hm with hm | hm
  ·cases hm;exact⟨xK H.1.1,H.1.2⟩
  ·exact aW H.2 hm
theorem kY:∀ {l:List (Nat × Obj')},bA l=true→∀ {n o},(n,o)∈l→wO o=true
 | (m,x)::r,H,n,o,hm=>by
  simp only[bA,Bool.and_eq_true] at H
  simp only[List.mem_cons] at hm
  rcases hm with hm | hm
  ·cases hm;exact H.1
  ·exact kY H.2 hm
theorem dN {ps:PS}:∀ {l:List (Nat × Obj')},sZ h ps l=true→∀ {n o},(n,o)∈l→yR (h n) ps=true
 | (m,x)::r,H,n,o,hm=>by
  simp only[sZ,Bool.and_eq_true] at H
  simp only[List.mem_cons] at hm
  rcases hm with hm | hm
  ·cases hm;exact H.1
  ·exact dN H.2 hm
theorem zDU:∀ {l:List (Nat × Obj')} {n:Nat},n∈nmsO l→∃ o,(n,o)∈l
 | (m,x)::r,n,hm=>by
  simp only[nmsO,List.mem_cons] at hm
  rcases hm with hm | hm
  ·subst hm;exact⟨x,List.mem_cons_self⟩
  ·obtain⟨o,ho⟩:=zDU hm;exact⟨o,List.mem_cons_of_mem _ ho⟩
theorem zHA:∀ {l:List Nat},(l.map h).Nodup→∀ {n m},n∈l→m∈l→h n=h m→n=m
 | x::r,hnd,n,m,hn,hm,e=>by
  simp only[List.map_cons,List.nodup_cons] at hnd
  simp only[List.mem_cons] at hn hm
  rcases hn with rfl | hn
  ·rcases hm with rfl | hm
   ·rfl
   ·exact absurd (List.mem_map.2 ⟨m,hm,e.symm⟩) hnd.1
  ·rcases hm with rfl | hm
   ·exact absurd (List.mem_map.2 ⟨n,hn,e⟩) hnd.1
   ·exact zHA hnd.2 hn hm e
theorem mX {l:List (Nat × Obj')}(hnd:((y7 h l).map Prod.fst).Nodup){n m:Nat}{o o':Obj'}(hn:(n,o)∈l)(hm:(m,o')∈l)(e:h n=h m):n=m:=by
 rw[qQ] at hnd
 have h1:n∈l.map Prod.fst:=List.mem_map.2 ⟨_,hn,rfl⟩
 have h2:m∈l.map Prod.fst:=List.mem_map.2 ⟨_,hm,rfl⟩
 exact zHA hnd h1 h2 e
theorem zEN {a:Act}:∀ {made:List (Nat × Obj')} {T:List (Nat × PV)} {O:List (Nat × Obj')} {β:Nat→Option Nat},Sim w0 S0 K0 N (zB T) O a w' S' β →
  (∀ n o,(n,o)∈made→ObjAt w' S' β' n o∧wO o=true∧yR (h n) ⟨T,O⟩=true) →
  (∀ n o b,(n,o)∈made→β' n=some b→(∀ i,¬ S' b i)∧b<w'.heap.size∧(∀ m x,(m,x)∈O→β m≠some b)∧(w0.heap.size≤b∨K0 b)) →
  ((y7 h made).map Prod.fst).Nodup→(∀ n o m o' b,(n,o)∈made→(m,o')∈made→β' n=some b→β' m=some b→n=m) →
  ∃ βf,Sim w0 S0 K0 N (zB T) (O++y7 h made) a w' S' βf∧(∀ m,m ∉ (y7 h made).map Prod.fst→βf m=β m)∧∀ n o,(n,o)∈made→βf (h n)=β' n
 | [],T,O,β,hs,_,_,_,_=>⟨β,by simpa [y7] using hs,fun _ _=>rfl,fun n o hm=>by cases hm⟩
 | (n,o)::r,T,O,β,hs,hA,hB,hnd,hinj=>by
  obtain⟨hat,hcl,hfr⟩:=hA n o List.mem_cons_self
  simp only[y7,List.map_cons,List.nodup_cons] at hnd
  have hnr:∀ m x,(m,x)∈r→h m≠h n:=fun m x hm e=>hnd.1 (List.mem_map.2 ⟨(h m,x),uB.2 ⟨m,hm,rfl⟩,e⟩)
  have step:Sim w0 S0 K0 N (zB T) (O++[(h n,o)]) a w' S' (gF β (h n) (β' n)):=by
   cases hb:β' n with
   | some b =>
    obtain⟨h1,h2,h3,h4⟩:=hB n o b List.mem_cons_self hb
    exact Sim.addObj (ps:=⟨T,O⟩) hs hfr (fun i hS=>absurd hS (h1 i)) h2 h3 h4 (s9 hcl hat (by rw[y6,hb]))
   | none =>
    cases o with
    | box cs=>obtain⟨b,vs,U,e1,_⟩:=hat;rw[hb] at e1;cases e1
    | arr s els =>
     rcases hat with ⟨_,e⟩ | ⟨b,vs,U,e1,_⟩
     ·exact Sim.newNil (lg:=false) (ps:=⟨T,O⟩) hs hfr e
     ·rw[hb] at e1;cases e1
    | log s els=>cases hcl
    | lent s els=>cases hcl
  have hfr':=hfr
  simp only[yR,Bool.and_eq_true] at hfr'
  obtain⟨βf,g1,g2,g3⟩:=zEN (made:=r) step
   (fun m x hm=>by
    obtain⟨q1,q2,q3⟩:=hA m x (List.mem_cons_of_mem _ hm)
    refine⟨q1,q2,?_⟩
    simp only[yR,Bool.and_eq_true] at q3 ⊢
    refine⟨q3.1,uN (wV q3.2) fun k y hk=>?_⟩
    simp only[List.mem_append,List.mem_singleton] at hk
    rcases hk with hk | hk
    ·exact yP q3.2 hk
    ·cases hk;exact⟨fun e=>hnr m x hm e.symm,sD hcl⟩)
   (fun m x b hm hb=>by
    obtain⟨q1,q2,q3,q4⟩:=hB m x b (List.mem_cons_of_mem _ hm) hb
    refine⟨q1,q2,fun k y hk e=>?_,q4⟩
    simp only[List.mem_append,List.mem_singleton] at hk
    rcases hk with hk | hk
    ·have hne:k≠h n:=(yP hfr'.2 hk).1
     rw[yQ hne] at e
     exact q3 k y hk e
    ·cases hk
     rw[y6] at e
     have:=hinj _ _ _ _ b (List.mem_cons_of_mem _ hm) List.mem_cons_self hb e
     subst this
     exact hnr m x hm rfl)
   hnd.2 (fun m x k y b hm hk=>hinj m x k y b (List.mem_cons_of_mem _ hm) (List.mem_cons_of_mem _ hk))
  refine⟨βf,?_,fun m hm=>?_,fun m x hm=>?_⟩
  ·simpa [y7,List.append_assoc] using g1
  ·simp only[y7,List.map_cons,List.mem_cons,not_or] at hm
   rw[g2 m hm.2,yQ hm.1]
  ·simp only[List.mem_cons] at hm
   rcases hm with hm | hm
   ·cases hm
    rw[g2 (h n) hnd.1,y6]
   ·exact g3 m x hm
theorem zAR:∀ {k l:List (Nat × Obj')} {m:Nat} {o:Obj'},(l.map Prod.fst).Nodup→(∀ n x,(n,x)∈k→h n∈l.map Prod.fst)→((y7 h k).map Prod.fst).Nodup→(m,o)∈pW h l k →
  (∃ n,(n,o)∈k∧m=h n)∨((m,o)∈l∧m ∉ (y7 h k).map Prod.fst)
 | [],l,m,o,hnd,hin,hk,hm=>.inr ⟨hm,by simp [y7]⟩
 | (n,x)::r,l,m,o,hnd,hin,hk,hm=>by
  have hn:=hin n x List.mem_cons_self
  simp only[y7,List.map_cons,List.nodup_cons] at hk
  simp only[pW] at hm
  have hnm:(setO l (h n) x).map Prod.fst=l.map Prod.fst:=uA hn
  rcases zAR (k:=r) (by rw[hnm];exact hnd) (fun k y hk=>by rw[hnm];exact hin k y (List.mem_cons_of_mem _ hk)) hk.2 hm with ⟨k,h1,h2⟩ | ⟨h1,h2⟩
  ·exact .inl ⟨k,List.mem_cons_of_mem _ h1,h2⟩
  ·rcases wA hnd hn h1 with ⟨rfl,rfl⟩ | ⟨h3,h4⟩
   ·exact .inl ⟨n,List.mem_cons_self,rfl⟩
   ·exact .inr ⟨h4,by simp only[y7,List.map_cons,List.mem_cons,not_or];exact⟨h3,h2⟩⟩
theorem nT:∀ {k l:List (Nat × Obj')},(∀ n x,(n,x)∈k→h n∈l.map Prod.fst)→(pW h l k).map Prod.fst=l.map Prod.fst
 | [],l,_=>rfl
 | (n,x)::r,l,hin=>by
  have hn:=hin n x List.mem_cons_self
  have hnm:(setO l (h n) x).map Prod.fst=l.map Prod.fst:=uA hn
  simp only[pW]
  rw[nT (k:=r) (fun k y hk=>by rw[hnm];exact hin k y (List.mem_cons_of_mem _ hk)),hnm]
theorem tW {l k:List (Nat × Obj')}(e:l.map Prod.fst=k.map Prod.fst){n:Nat}{o:Obj'}(hm:(n,o)∈l):∃ o',(n,o')∈k:=by
 have h1:n∈k.map Prod.fst:=by rw[←e];exact List.mem_map.2 ⟨_,hm,rfl⟩
 obtain⟨⟨m,o'⟩,h2,h3⟩:=List.mem_map.1 h1
 simp only at h3
 subst h3
 exact⟨o',h2⟩
theorem zCO {ps:PS}{o:Oper}{c:Call}{f:Operand}(hop:o.op=.call c)(hcl:c.callee=.value f)(hd:∀ t,o.dst=some t→t<N){K:PS→Prop}{Km:Act→World→Prop}{Q:Exit→Act→World→Prop}(hs:Sim w0 S0 K0 N (zB ps.tmps) ps.objs a w S β)
  {g:FuncId} {caps:List PV} (hf:ev (zB ps.tmps) f=.fn g caps) {cargs:List PV} {kept eaten:List (Nat × Obj')} {r:PV} {kept' made:List (Nat × Obj')}
  (hle:LeL (evs (ev (zB ps.tmps)) c.args.toList++caps) (renL h cargs)) (hso:Sound g cargs kept eaten r kept' made)
  (hobj:sY h ps.objs (kept++eaten)) (hnd1:ndO (y7 h (kept++eaten))=true) (hnd2:ndO (kept++eaten)=true) (hclo:bA (kept'++made)=true) (hnd3:ndO (y7 h made)=true) (hfree:sZ h (uJ h eaten ps) made=true)
  (hlv:yT lv cargs=true) (hlr:lv r=true) (hnm:nmIn (nmsO (kept'++made)) r=true)
  (hK:K (put (lU h eaten kept' made ps) o.dst (ren h r)))
  (hk:∀ ps' a' w' S' β',K ps'→Sim w0 S0 K0 N (zB ps'.tmps) ps'.objs a' w' S' β'→Km a' w'):o.wp Pg a w Km Q:=by
 have hfr:=hs.eval f
 rw[hf] at hfr
 obtain⟨vs,hv,hl,hr⟩:=kQ hfr
 have hargs:=((l6 (fun x=>hs.eval x) c.args.toList).append ⟨hl,hr⟩).le hle
 have hnodup1:=kD hnd1
 have hmemo:∀ {n x},(n,x)∈kept++eaten→(h n,x)∈ps.objs∧wO x=true:=fun hm=>aW hobj hm
 have hblk:∀ b,Blk (fun n=>β (h n)) (kept++eaten) b→(∀ i,¬ S b i)∧b<w.heap.size∧(w0.heap.size≤b∨K0 b):=by
  rintro b ⟨n,x,hm,hβ⟩
  obtain⟨h1,h2⟩:=hmemo hm
  exact⟨fun i hS=>oV h2 ((hs.obj.un _ _ b h1 hβ).1 i hS),(hs.obj.un _ _ b h1 hβ).2,hs.own _ _ b h1 hβ⟩
 have hobjs:ObjsAt w S (fun n=>β (h n)) (kept++eaten):=⟨kD hnd2,fun n x hm=>s9 (hmemo hm).2 (hs.obj.at_ _ _ (hmemo hm).1) rfl,fun n x b hm hβ=>hs.obj.un _ _ b (hmemo hm).1 hβ,
  fun n x m y b hm hm' hβ hβ'=>mX hnodup1 hm hm' (hs.obj.inj _ _ _ _ b (hmemo hm).1 (hmemo hm').1 hβ hβ')⟩
 have hlen:(renL h cargs).length=cargs.length:=zL _ _
 unfold Oper.wp
 rw[aM hop hcl hv hso.isf,Oper.upon_enter]
 refine (hso.go w S (fun n=>β (h n)) _ hs.ld.bnd hobjs (by rw[hargs.1,hlen]) (fun j hj=>zLC (by
  have:=hargs.2 j (by rw[hlen];exact hj)
  rwa [renL,yC _ rfl] at this) (xY hlv j hj))).mono ?_
 rintro e w' ⟨v,S',β',rfl,l,hrep,ho',hnk,hβk,hmd⟩
 show Km (a.put o.dst v) w'
 have hevo:Evo S w w':=⟨fun b i hS=>cJ (l.same b (hs.ld.bnd b i hS) fun hb=>(hblk b hb).1 i hS) i,l.shape⟩
 have hsub:∀ b i,S b i→S' b i:=l.subs hs.ld.bnd
 have hld:Leads w0 S0 K0 w' S':=by
  refine⟨Nat.le_trans hs.ld.size l.size,l.os.trans hs.ld.os,l.tape.trans hs.ld.tape,l.output.trans hs.ld.output,fun b hb hk=>?_,fun b us U hb=>?_,l.bnd,fun b i hb hS=>hsub b i (hs.ld.sub b i hb hS),fun b i hb hk hS=>?_⟩
  ·have hb':=Nat.lt_of_lt_of_le hb hs.ld.size
   rw[l.same b hb' fun hx=>by rcases (hblk b hx).2.2 with h' | h';omega;exact hk h']
   exact hs.ld.same b hb hk
  ·obtain⟨us',e1,e2⟩:=hs.ld.shape b us U hb
   obtain⟨us'',e3,e4⟩:=l.shape b us' U e1
   exact⟨us'',e3,e4.trans e2⟩
  ·have hb':=Nat.lt_of_lt_of_le hb hs.ld.size
   exact hs.ld.old b i hb hk (l.old b i hb' (fun hx=>by rcases (hblk b hx).2.2 with h' | h';omega;exact hk h') hS)
 
 have hmid:∀ {m x},(m,x)∈(uJ h eaten ps).objs→(∃ x',(m,x')∈ps.objs∧x=(match x' with | .box cs =>   .box (wF (scrs ((y7 h eaten).map Prod.fst)) cs) | .arr s els=>.arr s els | .log s els=>.log s els | .lent s els=>.lent s els))∧m ∉ (y7 h eaten).map Prod.fst:=by
  intro m x hm
  obtain⟨x',h1,h2⟩:=xX _ hm
  obtain⟨h3,h4⟩:=eO h1
  exact⟨⟨x',h3,h2⟩,h4⟩
 have hkin:∀ n x,(n,x)∈kept→h n∈((uJ h eaten ps).objs).map Prod.fst:=by
  intro n x hm
  have h1:=(hmemo (List.mem_append_left eaten hm)).1
  have h2:h n ∉ (y7 h eaten).map Prod.fst:=by
   intro hx
   obtain⟨⟨m,y⟩,h3,h4⟩:=List.mem_map.1 hx
   obtain⟨k,h5,h6⟩:=uB.1 h3
   simp only at h4
   rw[jU,List.map_append,List.nodup_append] at hnodup1
   exact hnodup1.2.2 (h n) (List.mem_map.2 ⟨_,uB.2 ⟨n,hm,rfl⟩,rfl⟩) m (List.mem_map.2 ⟨_,h3,rfl⟩) h4.symm
  obtain⟨x',h3⟩:=cU (scrs ((y7 h eaten).map Prod.fst)) (zAS h1 h2)
  exact List.mem_map.2 ⟨_,h3,rfl⟩
 have hkin':∀ n x,(n,x)∈kept'→h n∈((uJ h eaten ps).objs).map Prod.fst:=by
  intro n x hm
  obtain⟨x',h1⟩:=tW hnk hm
  exact hkin n x' h1
 have hmnd:((uJ h eaten ps).objs.map Prod.fst).Nodup:=by
  simp only[uJ,vM]
  exact (oO _ _).nodup hs.obj.nd
 have hknd:((y7 h kept').map Prod.fst).Nodup:=by
  rw[qQ,hnk,←qQ]
  rw[jU,List.map_append,List.nodup_append] at hnodup1
  exact hnodup1.1
 have hset:∀ {m x},(m,x)∈pW h (uJ h eaten ps).objs kept'→(∃ n,(n,x)∈kept'∧m=h n)∨((m,x)∈(uJ h eaten ps).objs∧m ∉ (y7 h kept').map Prod.fst) :=
  fun hm=>zAR hmnd hkin' hknd hm
 have hβk':∀ n x,(n,x)∈kept'→β' n=β (h n):=by
  intro n x hm
  obtain⟨x',h1⟩:=tW hnk hm
  exact hβk n x' h1
 have hin0:∀ {m x},(m,x)∈pW h (uJ h eaten ps).objs kept'→∃ x',(m,x')∈ps.objs:=by
  intro m x hm
  rcases hset hm with ⟨n,h1,rfl⟩ | ⟨h1,_⟩
  ·obtain⟨x',h2⟩:=tW hnk h1
   exact⟨x',(hmemo (List.mem_append_left eaten h2)).1⟩
  ·obtain⟨⟨x',h2,_⟩,_⟩:=hmid h1
   exact⟨x',h2⟩
 have hnblk:∀ {m x b},(m,x)∈(uJ h eaten ps).objs→m ∉ (y7 h kept').map Prod.fst→β m=some b→¬ Blk (fun n=>β (h n)) (kept++eaten) b:=by
  rintro m x b hm hnk' hβ ⟨n,y,hy,hβn⟩
  obtain⟨⟨x',h2,_⟩,h3⟩:=hmid hm
  have heq:=hs.obj.inj _ _ _ _ b h2 (hmemo hy).1 hβ hβn
  subst heq
  rcases List.mem_append.1 hy with hy | hy
  ·rw[qQ,hnk,←qQ] at hnk'
   exact hnk' (List.mem_map.2 ⟨_,uB.2 ⟨n,hy,rfl⟩,rfl⟩)
  ·exact h3 (List.mem_map.2 ⟨_,uB.2 ⟨n,hy,rfl⟩,rfl⟩)
 have hsim:Sim w0 S0 K0 N (zB (uJ h eaten ps).tmps) (pW h (uJ h eaten ps).objs kept') a w' S' β:=by
  refine⟨hs.dfr,hs.sz,hld,fun t=>?_,⟨by rw[nT hkin'];exact hmnd,?_,?_,?_⟩,?_,?_⟩
  ·simp only[uJ]
   rw[kF _ (iS _)]
   exact iR _ ((hs.tmp t).evo hevo hsub)
  ·intro m x hm
   rcases hset hm with ⟨n,h1,rfl⟩ | ⟨h1,h2⟩
   ·exact s9 (kY hclo (List.mem_append_left made h1)) (ho'.at_ n x (List.mem_append_left made h1)) (hβk' n x h1).symm
   ·obtain⟨⟨x',h3,h4⟩,h5⟩:=hmid h1
    have hat:=hs.obj.at_ m x' h3
    cases x' with
    | box cs =>
     subst h4
     obtain⟨b,us,T,e1,e2,e3,e4⟩:=hat
     refine⟨b,us,T,e1,?_,by rw[zL];exact e3,fun j hj=>?_⟩
     ·rw[l.same b (hs.obj.un _ _ b h3 e1).2 (hnblk h1 h2 e1)];exact e2
     ·rw[zL] at hj
      rw[yC _ (iS _)]
      exact iR _ ((e4 j hj).evo hevo hsub)
    | arr s els =>
     subst h4
     rcases hat with e0 | ⟨b,us,T,e1,e2,e3,e4,e5⟩
     ·exact .inl e0
     ·refine .inr ⟨b,us,T,e1,?_,e3,e4,fun i j hi hj=>⟨(e5 i j hi hj).1.evo hevo.same hsub,(e5 i j hi hj).2⟩⟩
      rw[l.same b (hs.obj.un _ _ b h3 e1).2 (hnblk h1 h2 e1)];exact e2
    | log s els =>
     subst h4
     rcases hat with e0 | ⟨b,us,T,e1,e2,e3,e4,e5⟩
     ·exact .inl e0
     ·refine .inr ⟨b,us,T,e1,?_,e3,e4,fun i j hi hj=>⟨(e5 i j hi hj).1.evo hevo.same hsub,(e5 i j hi hj).2⟩⟩
      rw[l.same b (hs.obj.un _ _ b h3 e1).2 (hnblk h1 h2 e1)];exact e2
    | lent s els =>
     subst h4
     obtain⟨hat,hst⟩:=hat
     refine⟨?_,fun b hb i hi=>hsub _ _ (hst b hb i hi)⟩
     rcases hat with e0 | ⟨b,us,T,e1,e2,e3,e4,e5⟩
     ·exact .inl e0
     ·refine .inr ⟨b,us,T,e1,?_,e3,e4,fun i j hi hj=>⟨(e5 i j hi hj).1.evo hevo.same hsub,(e5 i j hi hj).2⟩⟩
      rw[l.same b (hs.obj.un _ _ b h3 e1).2 (hnblk h1 h2 e1)];exact e2
  ·intro m x b hm hβ
   rcases hset hm with ⟨n,h1,rfl⟩ | ⟨h1,h2⟩
   ·exact ho'.un n x b (List.mem_append_left made h1) (by rw[hβk' n x h1];exact hβ)
   ·obtain⟨⟨x',h3,h4⟩,h5⟩:=hmid h1
    obtain⟨q1,q2⟩:=hs.obj.un m x' b h3 hβ
    refine⟨fun i hS=>?_,Nat.lt_of_lt_of_le q2 l.size⟩
    have:=q1 i (l.old b i q2 (hnblk h1 h2 hβ) hS)
    subst h4
    cases x' <;> exact this
  ·intro m x m' x' b hm hm' hβ hβ'
   obtain⟨y,h1⟩:=hin0 hm
   obtain⟨y',h2⟩:=hin0 hm'
   exact hs.obj.inj _ _ _ _ b h1 h2 hβ hβ'
  ·intro m x b hm hβ
   obtain⟨y,h1⟩:=hin0 hm
   exact hs.own m y b h1 hβ
  ·intro m x hm hb
   obtain⟨y,h1⟩:=hin0 hm
   exact hs.keep m y h1 hb
 obtain⟨βf,g1,g2,g3⟩:=zEN (h:=h) (made:=made) (β':=β') hsim
  (fun n x hm=>by
   refine⟨ho'.at_ n x (List.mem_append_right kept' hm),kY hclo (List.mem_append_right kept' hm),?_⟩
   have hfr:=dN hfree hm
   simp only[yR,Bool.and_eq_true] at hfr ⊢
   refine⟨hfr.1,uN (wV hfr.2) fun k y hk=>?_⟩
   have hne:∀ {k y},(k,y)∈(uJ h eaten ps).objs→k≠h n:=fun hk=>(yP hfr.2 hk).1
   rcases hset hk with ⟨m,h1,rfl⟩ | ⟨h1,h2⟩
   ·obtain⟨⟨q,y'⟩,q1,q2⟩:=List.mem_map.1 (hkin' m y h1)
    simp only at q2
    subst q2
    exact⟨hne q1,sD (kY hclo (List.mem_append_left made h1))⟩
   ·exact yP hfr.2 h1)
  (fun n x b hm hb=>by
   obtain⟨q1,q2⟩:=ho'.un n x b (List.mem_append_right kept' hm) hb
   refine⟨fun i hS=>oV (kY hclo (List.mem_append_right kept' hm)) (q1 i hS),q2,fun k y hk e=>?_,?_⟩
   ·rcases hmd n x b hm hb with h1 | ⟨m,z,h1,h2⟩
    ·obtain⟨y',h2⟩:=hin0 hk
     have:=(hs.obj.un k y' b h2 e).2
     omega
    ·rcases hset hk with ⟨m',h3,rfl⟩ | ⟨h3,h4⟩
     ·have heq:=ho'.inj _ _ _ _ b (List.mem_append_left made h3) (List.mem_append_right kept' hm) (by rw[hβk' m' y h3];exact e) hb
      subst heq
      have hfr:=dN hfree hm
      simp only[yR,Bool.and_eq_true] at hfr
      obtain⟨⟨q,y'⟩,q3,q4⟩:=List.mem_map.1 (hkin' m' y h3)
      simp only at q4
      exact (yP hfr.2 q3).1 q4
     ·exact hnblk h3 h4 e ⟨m,z,List.mem_append_right kept h1,h2⟩
   ·rcases hmd n x b hm hb with h1 | ⟨m,z,h1,h2⟩
    ·exact .inl (Nat.le_trans hs.ld.size h1)
    ·exact (hblk b ⟨m,z,List.mem_append_right kept h1,h2⟩).2.2)
  (kD hnd3) (fun n x m y b hm hm' hb hb'=>ho'.inj _ _ _ _ b (List.mem_append_right kept' hm) (List.mem_append_right kept' hm') hb hb')
 have hfin:Rep w' S' βf v (ren h r):=zNT (l:=nmsO (kept'++made)) (fun n hn=>by
  obtain⟨x,hm⟩:=zDU hn
  rcases List.mem_append.1 hm with hm | hm
  ·rw[g2 (h n) ?_,hβk' n x hm]
   intro hx
   obtain⟨⟨q,y⟩,q1,q2⟩:=List.mem_map.1 hx
   obtain⟨m,q3,q4⟩:=uB.1 q1
   simp only at q2
   have hfr:=dN hfree q3
   simp only[yR,Bool.and_eq_true] at hfr
   obtain⟨⟨q',y'⟩,q5,q6⟩:=List.mem_map.1 (hkin' n x hm)
   simp only at q6
   exact (yP hfr.2 q5).1 (by rw[q6,←q2,q4])
  ·exact g3 n x hm) hrep hnm
 exact hk _ _ _ _ _ hK (kA (ps:=lU h eaten kept' made ps) g1 o.dst hd hfin)
end
section
variable {w0:World} {S0:Nat→Nat→Prop} {K0:Nat→Prop} {N:Cx} {τ:Nat→PV} {objs:List (Nat × Obj')} {a:Act} {w w':World} {S S':Nat→Nat→Prop} {β:Nat→Option Nat}
theorem fM {o:Oper}{ps:PS}{K:PS→Prop}{Km:Act→World→Prop}{Q:Exit→Act→World→Prop}(h:Sim w0 S0 K0 N (zB ps.tmps) ps.objs a w S β)(hs:b7 o ps K)(hd:∀ t,o.dst=some t→t<N)
  (hk:∀ ps' a' w' S' β',K ps'→Sim w0 S0 K0 N (zB ps'.tmps) ps'.objs a' w' S' β'→Km a' w'):o.wp Pg a w Km Q:=by
 have hsop:sop ps.objs o.op (ev (zB ps.tmps)) (fun v=>K (put ps o.dst v))→o.wp Pg a w Km Q:=fun hs =>
  zAH h hs fun pv w' S' v hK l hr=>hk _ _ _ _ _ hK (kA (h.go l) o.dst hd hr)
 unfold b7 at hs
 split at hs
 ·rename_i t hop
  split at hs
  ·rename_i d hod
   cases hno:(ty t).isNo with
   | true=>simp [hno] at hs
   | false =>
    simp only[hno,cond_false] at hs
    obtain⟨i,zv,h1,h2,h3⟩:=zGG (w:=w) (S:=S) (β:=β) hno
    have hz:xW d (ty t).zero=true:=by
     cases hty:ty t with
     | no=>simp [hty,Ty.isNo] at hno
     | sc z=>obtain⟨_,_,zv',_,_,_,_,_,_,h7,_⟩:=zES hty;rw[h7];simp only[Ty.zero,xW,yT,Bool.and_true];unfold wI;split <;> rfl
     | st n fs z =>
      obtain⟨_,_,zs,_,_,_,_,_,_,h7,_⟩:=iI hty
      rw[h7]
      simp only[Ty.zero]
      generalize zs.toList=l
      induction l with
      | nil=>rfl
      | cons x l ih=>simp only[List.map_cons,xW,yT,Bool.and_eq_true];exact⟨by unfold wI;split <;> rfl,ih⟩
     | arr len n ag z =>
      obtain⟨_,_,zs,_,_,_,_,_,_,_,_,_,_,h7⟩:=rV hty
      rw[h7]
      simp only[Ty.zero]
      generalize zs.toList=l
      induction l with
      | nil=>rfl
      | cons x l ih=>simp only[List.map_cons,xW,yT,Bool.and_eq_true];exact⟨by unfold wI;split <;> rfl,ih⟩
     | sli n b z=>rfl
    refine tH (T:=t) hod (hd d hod) h hs h3 ?_ hk hz
    simp [execOp,hop,Instr.alloc,aK h1 h2,newVar,newRow]
  ·exact hs.elim
 ·rename_i t x hop
  split at hs
  ·rename_i d hod
   cases hp:qO (ev (zB ps.tmps) x) with
   | false=>simp [hp] at hs
   | true =>
    simp only[hp,cond_true] at hs
    have hr:=h.eval x
    have hz:yR d ps=true→xW d (yJ (ev (zB ps.tmps) x))=true:=by
     intro hf
     simp only[yR,Bool.and_eq_true] at hf
     have hx:wS d (ev (zB ps.tmps) x)=true:=by
      cases x with
      | tmp t=>exact vK hf.1 t
      | const v=>simp only[ev];unfold wI;split <;> rfl
      | global g=>rfl
      | func f=>rfl
     generalize ev (zB ps.tmps) x=y at hx hp
     cases y with
     | agg cs =>
      have:∀ (l:List PV),yT (rf1 d) l=true→xW d l=true:=by
       intro l
       induction l with
       | nil=>intro _;rfl
       | cons c l ih =>
        intro hl
        simp only[yT,Bool.and_eq_true] at hl
        simp only[xW,yT,Bool.and_eq_true]
        refine⟨?_,ih hl.2⟩
        have h1:=hl.1
        have up:∀ (l:List PV),yT (rf0 d) l=true→yT (rf1 d) l=true:=by
         intro l
         induction l with
         | nil=>intro _;rfl
         | cons e l ih2 =>
          intro hl
          simp only[yT,Bool.and_eq_true] at hl ⊢
          exact⟨by cases e <;> first | (simp [rf0] at hl;done) | exact hl.1,ih2 hl.2⟩
        cases c <;> first | exact h1 | exact up _ h1
      exact this cs hx
     | tup cs=>simp [qO,b9] at hp
     | _=>simpa only [yJ,xW,yT,Bool.and_true] using hx
    have hfree:yR d ps=true:=by
     unfold eI at hs
     cases hf:yR d ps with
     | false=>simp [hf] at hs
     | true=>rfl
    refine tH (T:=t) hod (hd d hod) h hs (kJ hr hp) ?_ hk (hz hfree)
    simp [execOp,hop,Instr.box,newVar,newRow]
  ·exact hs.elim
 ·rename_i t ad vl hop
  split at hs
  ·rename_i n off ha
   split at hs
   ·rename_i cs ho
    cases hc:(nqb (yJ (ev (zB ps.tmps) vl)).length (ty t).cells && nle (off+(ty t).cells) cs.length && nlt 0 (ty t).cells && yT b9 (yJ (ev (zB ps.tmps) vl))) with
    | false=>simp only[hc,cond_false] at hs
    | true =>
     simp only[hc,cond_true] at hs
     simp only[Bool.and_eq_true] at hc
     exact zHU hop hd h ha ho (yN hc.1.1.1) (pA hc.1.1.2) (by have:=hc.1.2;simp [nlt] at this;omega) hc.2 hs hk
   ·exact hs.elim
  ·rename_i n s i off ha
   split at hs
   ·rename_i s' els ho
    cases hc:(nqb s s' && nqb (yJ (ev (zB ps.tmps) vl)).length (ty t).cells && nle (off+(ty t).cells) s && nlt 0 (ty t).cells && yT t8 (yJ (ev (zB ps.tmps) vl))) with
    | false=>simp only[hc,cond_false] at hs
    | true =>
     simp only[hc,cond_true] at hs
     simp only[Bool.and_eq_true] at hc
     have:=yN hc.1.1.1.1
     subst this
     exact zHV hop hd h ha ho (yN hc.1.1.1.2) (pA hc.1.1.2) (by have:=hc.1.2;simp [nlt] at this;omega) hc.2 hs hk
   ·exact hs.elim
  ·exact hs.elim
 ·rename_i t l c hop
  split at hs
  ·rename_i n b z d x y ht hod hl hc
   obtain⟨hR,hM,hs⟩:=hs
   cases hf:(yR d ps && yT t8 z) with
   | false=>simp only[hf,cond_false] at hs
   | true =>
    simp only[hf,cond_true] at hs
    simp only[Bool.and_eq_true] at hf
    exact zFB hop hod (hd d hod) h ht hl hc hR hM hf.1 hf.2 hs hk
  ·exact hs.elim
 ·rename_i c hop
  split at hs
  ·rename_i g hcl
   obtain⟨ps',hw,f,caps,hf,hs⟩:=hs.h
   obtain⟨S1,β1,h1⟩:=hw.sound h
   rcases hs with ⟨args',r,hle,hso,hnm,hK⟩ | ⟨hn,cargs,kept,eaten,r,kept',made,hle,hso,hobj,hnd1,hnd2,hclo,hnd3,hfree,hlv,hlr,hnm,hK⟩
   ·exact n7 hop hcl h1 hf ⟨args',r,hle,hso,hnm,hK⟩ fun pv w' S' v hK' l hr=>hk _ _ _ _ _ hK' (kA (h1.go l) o.dst hd hr)
   ·exact zCO hop hcl hd h1 hf hle hso hobj hnd1 hnd2 hclo hnd3 hfree hlv hlr hnm hK hk
  ·rename_i hcl
   split at hs
   ·rename_i b x t tx ha ht
    cases htx:tT (ty tx) with
    | false=>simp [htx] at hs
    | true =>
     simp only[htx,cond_true] at hs
     obtain⟨ps',d,nm,n,b',z,xs,hw,hod,hty,hx,hwid,hs⟩:=hs.h
     obtain⟨S1,β1,h1⟩:=hw.sound h
     exact zIR hop hcl (by rw[←Array.toArray_toList (xs:=c.args),ha]) (by rw[←Array.toArray_toList (xs:=c.argTypes),ht]) htx hod (hd d hod) h1 hty hx hwid hs hk
   ·exact hs.elim
  ·exact hsop hs
  ·exact hs.elim
 ·rename_i t x yt hop
  split at hs
  ·rename_i n b z els ht hx
   have hr:=h.eval x
   rw[hx] at hr
   obtain⟨pv,val,h1,h2,h3⟩:=zBA (w:=w) (S:=S) (β:=β) (x:=x) ht hr hs
   refine aB (v:=val) (w':=w) ?_ (hk _ _ _ _ _ h1 (kA h o.dst hd h3))
   simp only[execOp,hop,Sem.run_bind] at h2 ⊢
   have:a.eval (.const (.slice none 0 0))=.slice none 0 0:=rfl
   simp [this,h2]
  ·exact hs.elim
 ·exact hsop hs
theorem zCZ {want:Bool}{v:PV}{A B:Unit→Prop}(h:v≠.tup []):gdV want v A B=(match want with | true=>brV v A B | false=>brV v B A):=by
 unfold gdV
 split
 ·exact absurd rfl h
 ·rfl
theorem sK (w:World)(S:Nat→Nat→Prop)(β:Nat→Option Nat):Rep w S β undef (.tup []):=.tup rfl fun j hj=>absurd hj (by simp)
theorem u6 {ops:List Oper}{o:Oper}{A B:Unit→Prop}(ht:∀ t,Rep w S β (a.tmps.getD t undef) (τ t))(h:vZ ops o τ A B) :
  (Region.wanted o (yielded ops.toArray a.tmps)=true∧A ())∨(Region.wanted o (yielded ops.toArray a.tmps)=false∧B ()):=by
 unfold vZ at h
 split at h
 ·rename_i hg;exact .inl ⟨by simp [Region.wanted,hg],h⟩
 ·rename_i j want hg
  split at h
  ·rename_i oj hj
   split at h
   ·rename_i d hd
    have key:∀ b,a.tmps.getD d undef=.bool b→Region.wanted o (yielded ops.toArray a.tmps)=(b == want):=by
     intro b hb
     have hlt:a.tmps[d]?=some (.bool b):=by
      cases hx:a.tmps[d]? with
      | none =>
       have:a.tmps.getD d undef=undef:=by simp [hx]
       rw[this] at hb
       cases hb
      | some v =>
       have:a.tmps.getD d undef=v:=by simp [hx]
       rw[this] at hb
       rw[hb]
     simp [Region.wanted,hg,yielded,hj,hd,hlt]
    by_cases hu:τ d=.tup []
    ·have hr:=ht d
     rw[hu] at hr h
     refine .inr ⟨?_,h⟩
     have hv:∀ b,a.tmps.getD d undef≠.bool b:=by
      intro b hb
      rw[hb] at hr
      cases hr with
      | c hf _=>cases hf
     cases hx:a.tmps[d]? with
     | none=>simp [Region.wanted,hg,yielded,hj,hd,hx]
     | some v =>
      have e:a.tmps.getD d undef=v:=by simp [hx]
      cases v with
      | bool b=>exact absurd e (hv b)
      | _=>simp [Region.wanted,hg,yielded,hj,hd,hx]
    rw[zCZ hu] at h
    cases want with
    | true =>
     simp only[cond_true] at h
     obtain⟨b,hb,h1,h2⟩:=nF (ht d) h
     cases b with
     | true=>exact .inl ⟨by rw[key true hb];rfl,h1 rfl⟩
     | false=>exact .inr ⟨by rw[key false hb];rfl,h2 rfl⟩
    | false =>
     simp only[cond_false] at h
     obtain⟨b,hb,h1,h2⟩:=nF (ht d) h
     cases b with
     | true=>exact .inr ⟨by rw[key true hb];rfl,h1 rfl⟩
     | false=>exact .inl ⟨by rw[key false hb];rfl,h2 rfl⟩
   ·exact h.elim
  ·exact h.elim
theorem nR {ops:List Oper}{o:Oper}{ps:PS}{K:PS→Prop}(h:Sim w0 S0 K0 N (zB ps.tmps) ps.objs a w S β)(hs:rR ops o ps K):∃ ps',K ps'∧Sim w0 S0 K0 N (zB ps'.tmps) ps'.objs a w S β:=by
 unfold rR at hs
 cases hg:isG ops o with
 | false=>simp only[hg,cond_false] at hs;exact⟨ps,hs,h⟩
 | true =>
  simp only[hg,cond_true] at hs
  split at hs
  ·rename_i d hd
   have hr:=h.tmp d
   split at hs
   ·rename_i b hb
    rw[hb] at hr
    cases hv:b () with
    | true=>exact⟨_,hs.t hv,h.setT (hr.le .tt (by simpa [Le] using hv))⟩
    | false=>exact⟨_,hs.f hv,h.setT (hr.le .ff (by simpa [Le] using hv))⟩
   ·rename_i b hb
    rw[hb] at hr
    cases hv:b () with
    | true=>exact⟨_,hs.t hv,h.setT (hr.le .ff (by simpa [Le] using hv))⟩
    | false=>exact⟨_,hs.f hv,h.setT (hr.le .tt (by simpa [Le] using hv))⟩
   ·exact⟨ps,hs,h⟩
  ·exact⟨ps,hs,h⟩
def aZ (N:Nat) (o:Oper):Bool :=
 match o.dst with
 | none=>true
 | some d=>decide (d<N)
theorem fY {o:Oper}(h:aZ N o=true):∀ t,o.dst=some t→t<N:=by
 intro t ht
 simpa [aZ,ht] using h
theorem dM {ops:List Oper}{Q:Exit→Act→World→Prop}{K:PS→Prop}(hk:∀ ps' a' w' S' β',K ps'→Sim w0 S0 K0 N (zB ps'.tmps) ps'.objs a' w' S' β'→Q .normal a' w') :
  ∀ (l:List Oper) {ps:PS} {a:Act} {w:World} {S:Nat→Nat→Prop} {β:Nat→Option Nat},(∀ o,o∈l→aZ N o=true)→Sim w0 S0 K0 N (zB ps.tmps) ps.objs a w S β→vF ops l ps K→wpList Pg ops.toArray Q l a w
 | [],ps,a,w,S,β,_,h,hs=>hk _ _ _ _ _ hs h
 | o::r,ps,a,w,S,β,hd,h,hs=>by
  simp only[vF] at hs
  simp only[wpList]
  have hdo:=fY (hd o List.mem_cons_self)
  rcases u6 h.tmp hs with ⟨hw,hA⟩ | ⟨hw,hB⟩
  ·rw[if_pos hw]
   exact .inl (fM h hA hdo fun ps' a' w' S' β' hK hsim=>by
    obtain⟨ps'',hK',hsim'⟩:=nR hsim hK
    exact dM hk r (fun o ho=>hd o (List.mem_cons_of_mem _ ho)) hsim' hK')
  ·rw[if_neg (by rw[hw];simp)]
   exact dM hk r (fun o ho=>hd o (List.mem_cons_of_mem _ ho)) (kA h o.dst hdo (sK _ _ _)) hB
end
end Go.Proofs.YtgcpehdkdnkgeaaGreat
