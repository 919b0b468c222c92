/- A part of the proof: PmJ. -/
import Derived.Test.YtgcpehdkdnkgeaaGreatV06
set_option linter.all false
namespace Go.Proofs.YtgcpehdkdnkgeaaGreat
open Go
section
variable {w0:World} {S0:Nat→Nat→Prop} {K0:Nat→Prop} {N:Cx} {τ:Nat→PV} {objs:List (Nat × Obj')} {a:Act} {w:World} {S S':Nat→Nat→Prop} {β:Nat→Option Nat}
theorem Evo.refl:Evo S w w:=⟨fun _ _ _=>rfl,fun b vs T h=>⟨vs,h,rfl⟩⟩
theorem Rep.mono {v pv}(h:Rep w S β v pv)(hS:∀ b i,S b i→S' b i):Rep w S' β v pv:=h.evo Evo.refl hS
theorem kF (f:PV→PV)(hf:f .any=.any):∀ (l:List (Nat × PV)) (t:Nat),zB (vW f l) t=f (zB l t)
 | [],t=>by simp [vW,zB,hf]
 | (u,v)::r,t=>by
  simp only[vW,zB]
  cases nqb u t with
  | true=>rfl
  | false=>exact kF f hf r t
theorem zL (f:PV→PV):∀ (l:List PV),(wF f l).length=l.length
 | []=>rfl
 | v::r=>by simp [wF,zL f r]
theorem yC (f:PV→PV)(hf:f .any=.any):∀ (l:List PV) (j:Nat),(wF f l).getD j .any=f (l.getD j .any)
 | [],j=>by simp [wF,hf]
 | v::r,0=>by simp [wF]
 | v::r,j+1=>by simpa [wF] using yC f hf r j
theorem kK {f:PV→Prop}(hf:f .any):∀ {cs:List PV},allP f cs→∀ j,f (cs.getD j .any)
 | [],_,j=>by simpa using hf
 | c::cs,h,0=>by simpa using h.1
 | c::cs,h,j+1=>by simpa using kK hf h.2 j
def szO:Obj'→Nat
 | .box cs=>cs.length
 | .arr s els=>(els ()).length * s
 | .log s els=>(els ()).length * s
 | .lent s els=>(els ()).length * s
theorem tA {n s:Nat}{els:Unit→List (List D)}{o:Obj'}(hr:o8 o=some (s,els))(h:ObjAt w S β n o):RowAt w S β n s els:=by
 cases o with
 | box cs=>cases hr
 | arr s' e=>cases hr;exact h
 | log s' e=>cases hr;exact h
 | lent s' e=>cases hr;exact h.1
theorem zFV {s:Nat}{els:Unit→List (List D)}{o:Obj'}(hr:o8 o=some (s,els)):szO o=(els ()).length * s:=by
 cases o with
 | box cs=>cases hr
 | arr s' e=>cases hr;rfl
 | log s' e=>cases hr;rfl
 | lent s' e=>cases hr;rfl
structure FrzAt (w:World) (S S':Nat→Nat→Prop) (β:Nat→Option Nat) (n:Nat) (o:Obj'):Prop where
 sub:∀ b i,S b i→S' b i
 new:∀ b,β n=some b→∀ i,i<szO o→S' b i
 at_:ObjAt w S β n o
 cl:l5 o=true
theorem frz0 {n:Nat}{o:Obj'}(F:FrzAt w S S' β n o){v pv}(h:Rep w S β v pv)(hf:fo0 n o pv):Rep w S' β v (fz0 n o pv):=by
 have hm:=h.mono F.sub
 cases pv with
 | agg cs=>exact xS _
 | tup cs=>exact xS _
 | fn f cs=>exact xS _
 | ptr m off =>
  simp only[fz0]
  cases hb:nqb m n with
  | false=>exact hm
  | true =>
   have:=yN hb
   subst this
   simp only[cond_true]
   cases o with
   | arr s els=>exact xS _
   | log s els=>exact xS _
   | lent s els=>exact xS _
   | box cs =>
    obtain⟨b,hβ,rfl⟩:=kP h
    obtain⟨b',vs,T,hβ',hw,hsz,hr⟩:=F.at_
    rw[hβ] at hβ'
    cases hβ'
    have hcl:=F.cl
    simp only[l5] at hcl
    have hfl:yT v4 (wF oN cs)=true:=by
     have:∀ (l:List PV),yT iL l=true→yT v4 (wF oN l)=true:=by
      intro l
      induction l with
      | nil=>intro _;rfl
      | cons c l ih =>
       intro h
       simp only[yT,Bool.and_eq_true,wF] at h ⊢
       exact⟨by cases c <;> simp_all [iL,oN,v4],ih h.2⟩
     exact this cs hcl
    show Rep w S' β _ (.dptr (wF oN cs) off)
    suffices key:Rep w S' β (.pointer (some ⟨b,0+off,none⟩)) (.dptr (wF oN cs) off) by rw[Nat.zero_add] at key;exact key
    refine Rep.dptr (o:=0) (fun j=>vs.getD j undef) (fun j hj=>F.new b hβ _ (by rw[zL] at hj;simpa [szO] using hj)) hfl (fun j hj=>?_) (fun j hj=>?_)
    ·rw[zL] at hj
     rw[Nat.zero_add]
     exact bX hw j (by omega)
    ·rw[zL] at hj
     rw[yC _ rfl]
     have h1:=tC ((hr j hj).mono F.sub) (xD rfl hcl j)
     have h2:∀ x:PV,toD (oN x)=toD x:=by intro x;cases x <;> rfl
     rw[h2]
     exact h1
 | aptr m s i off =>
  simp only[fz0]
  cases hb:nqb m n with
  | false=>exact hm
  | true=>exact xS _
 | osl m s i len =>
  simp only[fz0]
  cases hb:nqb m n with
  | false=>exact hm
  | true =>
   have:=yN hb
   subst this
   simp only[cond_true]
   cases hro:o8 o with
   | none=>exact xS _
   | some p =>
    obtain⟨s',els⟩:=p
    simp only[fo0,hb,hro] at hf
    have hf:=hf.h
    show Rep w S' β v ((match nqb s s' with | true=>PV.sl (fun _=>((els ()).drop (i ())).take (len ())) | false=>.any))
    cases hss:nqb s s' with
    | false=>exact xS _
    | true =>
     have:=yN hss
     subst this
     simp only[cond_true]
     refine .c rfl ?_
     simp only[toD]
     rcases gQ h with ⟨hn,ho,hl,aa,rfl⟩ | ⟨b,cap,vs,T,hβ,hlc,hw,hsz,rfl⟩
     ·rw[hl];simpa using RepD.sl0 _ _
     ·rcases tA hro F.at_ with ⟨hn,_⟩ | ⟨b',vs',T',hβ',hw',hsz',hwid,hr⟩
      ·rw[hβ] at hn;cases hn
      ·rw[hβ] at hβ'
       cases hβ'
       rw[hw] at hw'
       cases hw'
       have hlen:(((els ()).drop (i ())).take (len ())).length=len ():=by simp;omega
       by_cases h0:len ()=0
       ·rw[h0];simpa using RepD.sl0 _ _
       ·have hg:∀ k,k<len ()→(((els ()).drop (i ())).take (len ())).getD k []=(els ()).getD (i ()+k) []:=by
         intro k hk
         simp only[List.getD_eq_getElem?_getD]
         rw[List.getElem?_take_of_lt hk,List.getElem?_drop]
        have key:=RepD.sl (w:=w) (S:=S') (b:=b) (o:=i () * s) (cap:=cap) (s:=s) (els:=((els ()).drop (i ())).take (len ())) (fun k j=>vs.getD ((i ()+k) * s+j) undef)
         (by intro e;rw[e] at hlen;simp at hlen;omega) (by rw[hlen];exact hlc)
         (fun k j hk hj=>F.new b hβ _ (by
          rw[hlen] at hk
          rw[zFV hro]
          have:(i ()+k) * s+s≤(els ()).length * s:=by
           calc (i ()+k) * s+s=(i ()+k+1) * s:=by rw[Nat.add_mul (i ()+k)];omega
            _≤_:=Nat.mul_le_mul_right _ (by omega)
          rw[Nat.add_mul] at this
          omega))
         (fun e he=>hwid e (List.mem_of_mem_drop (List.mem_of_mem_take he)))
         (fun k j hk hj=>by
          rw[hlen] at hk
          have hlt:(i ()+k) * s+j<vs.size:=by
           have:(i ()+k) * s+s≤(els ()).length * s:=by
            calc (i ()+k) * s+s=(i ()+k+1) * s:=by rw[Nat.add_mul (i ()+k)];omega
             _≤_:=Nat.mul_le_mul_right _ (by omega)
           omega
          rw[←bX hw _ hlt,Nat.add_mul])
         (fun k j hk hj=>by rw[hlen] at hk;exact (hr (i ()+k) j (by omega) hj).2)
         (fun k j hk hj=>by
          rw[hlen] at hk
          rw[hg k hk]
          exact ((hr (i ()+k) j (by omega) hj).1).evo (fun _ _ _=>rfl) F.sub)
        rw[hlen] at key
        exact key
 | int k x=>exact hm
 | tt=>exact hm
 | ff=>exact hm
 | bool b=>exact hm
 | nbool b=>exact hm
 | str x=>exact hm
 | nil=>exact hm
 | sl e=>exact hm
 | dptr cs o=>exact hm
 | nilf=>exact hm
 | any=>exact hm
theorem frz1 {n:Nat}{o:Obj'}(F:FrzAt w S S' β n o){v pv}(h:Rep w S β v pv)(hf:fo1 n o pv):Rep w S' β v (fz1 n o pv):=by
 cases pv with
 | agg cs =>
  obtain⟨vs,rfl,h1,h2⟩:=v9 h
  exact .agg (by rw[zL];exact h1) fun j hj=>by rw[zL] at hj;rw[yC _ rfl];exact frz0 F (h2 j hj) (kK trivial hf j)
 | tup cs =>
  obtain⟨vs,rfl,h1,h2⟩:=kO h
  exact .tup (by rw[zL];exact h1) fun j hj=>by rw[zL] at hj;rw[yC _ rfl];exact frz0 F (h2 j hj) (kK trivial hf j)
 | fn f cs =>
  obtain⟨vs,rfl,h1,h2⟩:=kQ h
  exact .fn (by rw[zL];exact h1) fun j hj=>by rw[zL] at hj;rw[yC _ rfl];exact frz0 F (h2 j hj) (kK trivial hf j)
 | _=>exact frz0 F h hf
theorem frz2 {n:Nat}{o:Obj'}(F:FrzAt w S S' β n o){v pv}(h:Rep w S β v pv)(hf:fo n o pv):Rep w S' β v (frz n o pv):=by
 cases pv with
 | agg cs =>
  obtain⟨vs,rfl,h1,h2⟩:=v9 h
  exact .agg (by rw[zL];exact h1) fun j hj=>by rw[zL] at hj;rw[yC _ rfl];exact frz1 F (h2 j hj) (kK trivial hf j)
 | tup cs =>
  obtain⟨vs,rfl,h1,h2⟩:=kO h
  exact .tup (by rw[zL];exact h1) fun j hj=>by rw[zL] at hj;rw[yC _ rfl];exact frz1 F (h2 j hj) (kK trivial hf j)
 | fn f cs =>
  obtain⟨vs,rfl,h1,h2⟩:=kQ h
  exact .fn (by rw[zL];exact h1) fun j hj=>by rw[zL] at hj;rw[yC _ rfl];exact frz1 F (h2 j hj) (kK trivial hf j)
 | _=>exact frz0 F h hf
theorem xX (f:PV→PV):∀ {l:List (Nat × Obj')} {n:Nat} {o:Obj'},(n,o)∈xL f l→∃ o',(n,o')∈l∧o=(match o' with | .box cs=>.box (wF f cs) | .arr s els=>.arr s els | .log s els=>.log s els | .lent s els=>.lent s els)
 | (m,.box cs)::r,n,o,h=>by
  simp only[xL,List.mem_cons] at h
  rcases h with h | h
  ·cases h;exact⟨_,List.mem_cons_self,rfl⟩
  ·obtain⟨o',h1,h2⟩:=xX f h;exact⟨o',List.mem_cons_of_mem _ h1,h2⟩
 | (m,.arr s els)::r,n,o,h=>by
  simp only[xL,List.mem_cons] at h
  rcases h with h | h
  ·cases h;exact⟨_,List.mem_cons_self,rfl⟩
  ·obtain⟨o',h1,h2⟩:=xX f h;exact⟨o',List.mem_cons_of_mem _ h1,h2⟩
 | (m,.log s els)::r,n,o,h=>by
  simp only[xL,List.mem_cons] at h
  rcases h with h | h
  ·cases h;exact⟨_,List.mem_cons_self,rfl⟩
  ·obtain⟨o',h1,h2⟩:=xX f h;exact⟨o',List.mem_cons_of_mem _ h1,h2⟩
 | (m,.lent s els)::r,n,o,h=>by
  simp only[xL,List.mem_cons] at h
  rcases h with h | h
  ·cases h;exact⟨_,List.mem_cons_self,rfl⟩
  ·obtain⟨o',h1,h2⟩:=xX f h;exact⟨o',List.mem_cons_of_mem _ h1,h2⟩
theorem vM (f:PV→PV):∀ (l:List (Nat × Obj')),(xL f l).map Prod.fst=l.map Prod.fst
 | []=>rfl
 | (m,.box cs)::r=>by simp [xL,vM f r]
 | (m,.arr s els)::r=>by simp [xL,vM f r]
 | (m,.log s els)::r=>by simp [xL,vM f r]
 | (m,.lent s els)::r=>by simp [xL,vM f r]
theorem wE:∀ {l:List (Nat × Obj')} {n m:Nat} {o:Obj'},(m,o)∈wR l n→(m,o)∈l∧m≠n
 | (u,x)::r,n,m,o,h=>by
  simp only[wR] at h
  cases hu:nqb u n with
  | true =>
   simp only[hu,cond_true] at h
   obtain⟨h1,h2⟩:=wE h
   exact⟨List.mem_cons_of_mem _ h1,h2⟩
  | false =>
   simp only[hu,cond_false,List.mem_cons] at h
   rcases h with h | h
   ·cases h
    exact⟨List.mem_cons_self,fun e=>by subst e;simp at hu⟩
   ·obtain⟨h1,h2⟩:=wE h
    exact⟨List.mem_cons_of_mem _ h1,h2⟩
theorem sA:∀ (l:List (Nat × Obj')) (n:Nat),((wR l n).map Prod.fst).Sublist (l.map Prod.fst)
 | [],n=>by simp [wR]
 | (u,x)::r,n=>by
  simp only[wR]
  cases nqb u n with
  | true=>exact (sA r n).trans (List.sublist_cons_self _ _)
  | false=>exact (sA r n).cons_cons _
theorem zD7 {n:Nat}{o:Obj'}:∀ {l:List (Nat × PV)},foT n o l→∀ t,fo n o (zB l t)
 | [],_,t=>trivial
 | (u,v)::r,h,t=>by
  simp only[zB]
  cases nqb u t with
  | true=>exact h.1
  | false=>exact zD7 h.2 t
theorem t5 {n:Nat}{o:Obj'}:∀ {l:List (Nat × Obj')},foO n o l→∀ {m cs},(m,Obj'.box cs)∈l→allP (fo n o) cs
 | (u,.box cs')::r,h,m,cs,hm=>by
  simp only[List.mem_cons] at hm
  rcases hm with hm | hm
  ·cases hm;exact h.1
  ·exact t5 h.2 hm
 | (u,.arr s els)::r,h,m,cs,hm=>by
  simp only[List.mem_cons] at hm
  rcases hm with hm | hm
  ·cases hm
  ·exact t5 (l:=r) h hm
 | (u,.log s els)::r,h,m,cs,hm=>by
  simp only[List.mem_cons] at hm
  rcases hm with hm | hm
  ·cases hm
  ·exact t5 (l:=r) h hm
 | (u,.lent s els)::r,h,m,cs,hm=>by
  simp only[List.mem_cons] at hm
  rcases hm with hm | hm
  ·cases hm
  ·exact t5 (l:=r) h hm
theorem RowAt.mono {n s:Nat}{els:Unit→List (List D)}(h:RowAt w S β n s els)(hS:∀ b i,S b i→S' b i):RowAt w S' β n s els:=by
 rcases h with e | ⟨b,vs,T,e1,e2,e3,e4,e5⟩
 ·exact .inl e
 ·exact .inr ⟨b,vs,T,e1,e2,e3,e4,fun i j hi hj=>⟨(e5 i j hi hj).1.evo (fun _ _ _=>rfl) hS,(e5 i j hi hj).2⟩⟩
theorem ObjAt.mono {n:Nat}{o:Obj'}(h:ObjAt w S β n o)(hS:∀ b i,S b i→S' b i):ObjAt w S' β n o:=by
 cases o with
 | box cs=>obtain⟨b,vs,T,e1,e2,e3,e4⟩:=h;exact⟨b,vs,T,e1,e2,e3,fun j hj=>(e4 j hj).mono hS⟩
 | arr s els=>exact RowAt.mono h hS
 | log s els=>exact RowAt.mono h hS
 | lent s els=>exact⟨RowAt.mono h.1 hS,h.2.mono hS⟩
theorem Sim.frz {ps:PS}(h:Sim w0 S0 K0 N (zB ps.tmps) ps.objs a w S β){n:Nat}{o:Obj'}(ho:yG ps.objs n=some o)(hc:l5 o=true)(hT:foT n o ps.tmps)(hO:foO n o ps.objs) :
  ∃ S' β',Sim w0 S0 K0 N (zB (zFR n o ps).tmps) (zFR n o ps).objs a w S' β':=by
 have hmem:=xK ho
 have F:FrzAt w S (fun b i=>S b i∨β n=some b) β n o:=⟨fun b i=>.inl,fun b h i _=>.inr h,h.obj.at_ n o hmem,hc⟩
 refine⟨fun b i=>S b i∨β n=some b,β,⟨h.dfr,h.sz,?_,?_,?_,?_,?_⟩⟩
 ·refine⟨h.ld.size,h.ld.os,h.ld.tape,h.ld.output,h.ld.same,h.ld.shape,?_,?_,?_⟩
  ·rintro b i (hS | hβ)
   ·exact h.ld.bnd b i hS
   ·exact (h.obj.un n o b hmem hβ).2
  ·exact fun b i hb hS=>.inl (h.ld.sub b i hb hS)
  ·rintro b i hb hk (hS | hβ)
   ·exact h.ld.old b i hb hk hS
   ·rcases h.own n o b hmem hβ with h' | h'
    ·omega
    ·exact absurd h' hk
 ·intro t
  simp only[zFR]
  rw[kF _ rfl]
  exact frz2 F (h.tmp t) (zD7 hT t)
 ·refine⟨?_,?_,?_,?_⟩
  ·simp only[zFR,vM]
   exact (sA _ _).nodup h.obj.nd
  ·intro m o' hm
   obtain⟨o'',h1,h2⟩:=xX _ hm
   obtain⟨h3,h4⟩:=wE h1
   have hat:=h.obj.at_ m o'' h3
   cases o'' with
   | box cs =>
    subst h2
    obtain⟨b,vs,T,e1,e2,e3,e4⟩:=hat
    exact⟨b,vs,T,e1,e2,by rw[zL];exact e3,fun j hj=>by rw[zL] at hj;rw[yC _ rfl];exact frz2 F (e4 j hj) (kK trivial (t5 hO h3) j)⟩
   | arr s els=>subst h2;exact RowAt.mono hat F.sub
   | log s els=>subst h2;exact RowAt.mono hat F.sub
   | lent s els=>subst h2;exact⟨RowAt.mono hat.1 F.sub,hat.2.mono F.sub⟩
  ·intro m o' b hm hβ
   obtain⟨o'',h1,h2⟩:=xX _ hm
   obtain⟨h3,h4⟩:=wE h1
   obtain⟨h5,h6⟩:=h.obj.un m o'' b h3 hβ
   refine⟨?_,h6⟩
   rintro i (hS | hn)
   ·subst h2
    have:=h5 i hS
    cases o'' with
    | box cs=>exact this
    | arr s els=>exact this
    | log s els=>exact this
    | lent s els=>exact this
   ·exact absurd (h.obj.inj _ _ _ _ b h3 hmem hβ hn) h4
  ·intro m o' m' o'' b hm hm' hβ hβ'
   obtain⟨x,h1,_⟩:=xX _ hm
   obtain⟨y,h2,_⟩:=xX _ hm'
   exact h.obj.inj _ _ _ _ b (wE h1).1 (wE h2).1 hβ hβ'
 ·intro m o' b hm hβ
  obtain⟨x,h1,_⟩:=xX _ hm
  exact h.own m x b (wE h1).1 hβ
 ·intro m o' hm hb
  obtain⟨x,h1,_⟩:=xX _ hm
  exact h.keep m x (wE h1).1 hb
theorem dD {f:PV→PV→Prop}(hf:∀ a b,f a b→Le a b):∀ {a b:List PV},qJ f a b→LeL a b
 | [],[],_=>by simp [LeL]
 | x::a,y::b,h=>by simp only[LeL];exact⟨hf _ _ h.1,dD hf h.2⟩
 | [],y::b,h=>h.elim
 | x::a,[],h=>h.elim
theorem zBY {a b:PV}(h:les1 a b):Le a b:=by
 unfold les1 at h
 split at h
 ·simp only[Le];exact dD (fun _ _ h=>h.h) h
 ·simp only[Le];exact dD (fun _ _ h=>h.h) h
 ·exact h.h
theorem cC {a b:PV}(h:les a b):Le a b:=by
 unfold les at h
 split at h
 ·simp only[Le];exact dD (fun _ _ h=>zBY h) h
 ·simp only[Le];exact dD (fun _ _ h=>zBY h) h
 ·simp only[Le];exact⟨yN h.1,dD (fun _ _ h=>zBY h) h.2⟩
 ·exact h.h
theorem sS {a b:List PV}(h:qJ les a b):LeL a b:=dD (fun _ _ h=>cC h) h
theorem zDZ {src:List (Nat × PV)}:∀ {l:List (Nat × PV)},leT src l→∀ t,Le (zB src t) (zB l t)
 | [],_,t=>by simp [zB,Le]
 | (u,v)::r,h,t=>by
  simp only[zB]
  cases hu:nqb u t with
  | true=>have:=yN hu;subst this;exact cC h.1
  | false=>exact zDZ h.2 t
theorem bT {src:List (Nat × Obj')}:∀ {l:List (Nat × Obj')},leO src l→∀ {n o},(n,o)∈l→∃ o',(n,o')∈src∧zFS o' o
 | (u,x)::r,h,n,o,hm=>by
  simp only[List.mem_cons] at hm
  rcases hm with hm | hm
  ·cases hm
   have h1:=h.1
   split at h1
   ·rename_i o' ho;exact⟨o',xK ho,h1⟩
   ·exact h1.elim
  ·exact bT h.2 hm
theorem zD6 {n:Nat}:∀ {l:List (Nat × Obj')},hasN n l=false→n ∉ l.map Prod.fst
 | [],_=>by simp
 | (m,o)::r,h=>by
  simp only[hasN,Bool.or_eq_false_iff] at h
  simp only[List.map_cons,List.mem_cons,not_or]
  exact⟨fun e=>by subst e;simp at h,zD6 h.2⟩
theorem kD:∀ {l:List (Nat × Obj')},ndO l=true→(l.map Prod.fst).Nodup
 | [],_=>List.nodup_nil
 | (n,o)::r,h=>by
  simp only[ndO,Bool.and_eq_true,Bool.not_eq_true'] at h
  simp only[List.map_cons,List.nodup_cons]
  exact⟨zD6 h.1,kD h.2⟩
theorem ObjAt.le {n:Nat}{o o':Obj'}(h:ObjAt w S β n o')(hl:zFS o' o):ObjAt w S β n o:=by
 cases o' with
 | box cs =>
  cases o with
  | arr s e=>exact hl.elim
  | log s e=>exact hl.elim
  | lent s e=>exact hl.elim
  | box ds =>
   obtain⟨b,vs,T,e1,e2,e3,e4⟩:=h
   have hl:=sS hl
   exact⟨b,vs,T,e1,e2,e3.trans (wZ hl),fun j hj=>(e4 j (by rw[wZ hl];exact hj)).le _ (bC hl j hj)⟩
 | arr s e =>
  cases o with
  | box ds=>exact hl.elim
  | log s e=>exact hl.elim
  | lent s e=>exact hl.elim
  | arr s' e' =>
   obtain⟨hs,he⟩:=hl
   have:=yN hs
   subst this
   cases fU he.h
   exact h
 | log s e =>
  cases o with
  | box ds=>exact hl.elim
  | arr s e=>exact hl.elim
  | lent s e=>exact hl.elim
  | log s' e' =>
   obtain⟨hs,he⟩:=hl
   have:=yN hs
   subst this
   cases fU he.h
   exact h
 | lent s e =>
  cases o with
  | box ds=>exact hl.elim
  | arr s e=>exact hl.elim
  | log s' e' =>
   obtain⟨hs,he⟩:=hl
   have:=yN hs
   subst this
   cases fU he.h
   exact h.1
  | lent s' e' =>
   obtain⟨hs,he⟩:=hl
   have:=yN hs
   subst this
   cases fU he.h
   exact h
theorem zJY {o o':Obj'}(hl:zFS o' o){i:Nat}(h:gI o' i):gI o i:=by
 cases o' with
 | box cs=>exact h.elim
 | arr s e=>exact h.elim
 | log s e =>
  cases o with
  | box ds=>exact hl.elim
  | arr s e=>exact hl.elim
  | lent s e=>exact hl.elim
  | log s' e' =>
   obtain⟨hs,he⟩:=hl
   have:=yN hs
   subst this
   cases fU he.h
   exact h
 | lent s e =>
  cases o with
  | box ds=>exact hl.elim
  | arr s e=>exact hl.elim
  | log s' e' =>
   obtain⟨hs,he⟩:=hl
   have:=yN hs
   subst this
   cases fU he.h
   exact h
  | lent s' e' =>
   obtain⟨hs,he⟩:=hl
   have:=yN hs
   subst this
   cases fU he.h
   exact h
theorem Sim.le {ps ps':PS}(h:Sim w0 S0 K0 N (zB ps.tmps) ps.objs a w S β)(ht:leT ps.tmps ps'.tmps)(ho:leO ps.objs ps'.objs)(hn:ndO ps'.objs=true):Sim w0 S0 K0 N (zB ps'.tmps) ps'.objs a w S β where
 dfr:=h.dfr
 sz:=h.sz
 ld:=h.ld
 tmp t:=(h.tmp t).le _ (zDZ ht t)
 obj:=⟨kD hn,fun n o hm=>by obtain⟨o',h1,h2⟩:=bT ho hm;exact (h.obj.at_ n o' h1).le h2,
  fun n o b hm hβ=>by obtain⟨o',h1,h2⟩:=bT ho hm;exact⟨fun i hS=>zJY h2 ((h.obj.un n o' b h1 hβ).1 i hS),(h.obj.un n o' b h1 hβ).2⟩,
  fun n o m o' b hm hm' hβ hβ'=>by
   obtain⟨x,h1,_⟩:=bT ho hm
   obtain⟨y,h2,_⟩:=bT ho hm'
   exact h.obj.inj _ _ _ _ b h1 h2 hβ hβ'⟩
 own n o b hm hβ:=by obtain⟨o',h1,_⟩:=bT ho hm;exact h.own n o' b h1 hβ
 keep n o hm hb:=by obtain⟨o',h1,_⟩:=bT ho hm;exact h.keep n o' h1 hb
theorem vK {n:Nat}:∀ {l:List (Nat × PV)},cR n l=true→∀ t,wS n (zB l t)=true
 | [],_,t=>rfl
 | (u,v)::r,h,t=>by
  simp only[cR,Bool.and_eq_true] at h
  simp only[zB]
  cases nqb u t with
  | true=>exact h.1
  | false=>exact vK h.2 t
theorem wV {n:Nat}{l:List (Nat × Obj')}(h:xJ n l=true):n<1000000:=by
 induction l with
 | nil=>exact aS (by rw[xJ] at h;exact h)
 | cons a r ih =>
  obtain⟨u,o⟩:=a
  cases o with
  | box cs=>simp only[xJ,Bool.and_eq_true] at h;exact ih h.2
  | arr s els=>simp only[xJ,Bool.and_eq_true] at h;exact ih h.2
  | log s els=>simp only[xJ,Bool.and_eq_true] at h;exact ih h.2
  | lent s els=>simp only[xJ,Bool.and_eq_true] at h;exact ih h.2
def jY (n:Nat):Obj'→Prop
 | .box cs=>xW n cs=true
 | .arr _ _=>True
 | .log _ _=>True
 | .lent _ _=>True
theorem yP {n:Nat}{l:List (Nat × Obj')}(h:xJ n l=true):∀ {m o},(m,o)∈l→m≠n∧jY n o:=by
 induction l with
 | nil=>intro m o hm;exact absurd hm (by simp)
 | cons a r ih =>
  obtain⟨u,o'⟩:=a
  cases o' with
  | box cs =>
   intro m o hm
   simp only[xJ,Bool.and_eq_true] at h
   simp only[List.mem_cons] at hm
   rcases hm with hm | hm
   ·cases hm;exact⟨dS h.1.1,h.1.2⟩
   ·exact ih h.2 hm
  | arr s els =>
   intro m o hm
   simp only[xJ,Bool.and_eq_true] at h
   simp only[List.mem_cons] at hm
   rcases hm with hm | hm
   ·cases hm;exact⟨dS h.1,trivial⟩
   ·exact ih h.2 hm
  | log s els =>
   intro m o hm
   simp only[xJ,Bool.and_eq_true] at h
   simp only[List.mem_cons] at hm
   rcases hm with hm | hm
   ·cases hm;exact⟨dS h.1,trivial⟩
   ·exact ih h.2 hm
  | lent s els =>
   intro m o hm
   simp only[xJ,Bool.and_eq_true] at h
   simp only[List.mem_cons] at hm
   rcases hm with hm | hm
   ·cases hm;exact⟨dS h.1,trivial⟩
   ·exact ih h.2 hm
theorem ObjAt.upd {n:Nat}{x:Option Nat}{m:Nat}{o:Obj'}(h:ObjAt w S β m o)(hm:m≠n)(hf:jY n o):ObjAt w S (gF β n x) m o:=by
 cases o with
 | box cs =>
  obtain⟨b,vs,T,e1,e2,e3,e4⟩:=h
  exact⟨b,vs,T,by rw[yQ hm];exact e1,e2,e3,fun j hj=>(e4 j hj).upd (xD rfl hf j)⟩
 | arr s els =>
  rcases h with⟨e0,e⟩ | ⟨b,vs,T,e1,rest⟩
  ·exact .inl ⟨by rw[yQ hm];exact e0,e⟩
  ·exact .inr ⟨b,vs,T,by rw[yQ hm];exact e1,rest⟩
 | log s els =>
  rcases h with⟨e0,e⟩ | ⟨b,vs,T,e1,rest⟩
  ·exact .inl ⟨by rw[yQ hm];exact e0,e⟩
  ·exact .inr ⟨b,vs,T,by rw[yQ hm];exact e1,rest⟩
 | lent s els =>
  obtain⟨h,hst⟩:=h
  refine⟨?_,fun b hb i hi=>hst b (by rw[yQ hm] at hb;exact hb) i hi⟩
  rcases h with⟨e0,e⟩ | ⟨b,vs,T,e1,rest⟩
  ·exact .inl ⟨by rw[yQ hm];exact e0,e⟩
  ·exact .inr ⟨b,vs,T,by rw[yQ hm];exact e1,rest⟩
theorem Sim.freshO {ps:PS}(h:Sim w0 S0 K0 N (zB ps.tmps) ps.objs a w S β){n:Nat}{O:Obj'}(hf:yR n ps=true)(hO:∀ β',β' n=none→ObjAt w S β' n O) :
  Sim w0 S0 K0 N (zB ps.tmps) (ps.objs++[(n,O)]) a w S (gF β n none):=by
 simp only[yR,Bool.and_eq_true] at hf
 have hmem:∀ {m o},(m,o)∈ps.objs++[(n,O)]→((m,o)∈ps.objs∧m≠n)∨(m=n∧o=O):=by
  intro m o hm
  simp only[List.mem_append,List.mem_singleton] at hm
  rcases hm with hm | hm
  ·exact .inl ⟨hm,(yP hf.2 hm).1⟩
  ·cases hm;exact .inr ⟨rfl,rfl⟩
 refine⟨h.dfr,h.sz,h.ld,fun t=>(h.tmp t).upd (vK hf.1 t),⟨?_,?_,?_,?_⟩,?_,?_⟩
 ·rw[List.map_append,List.nodup_append]
  refine⟨h.obj.nd,by simp,?_⟩
  intro x hx y hy e
  simp at hy
  subst hy e
  obtain⟨⟨m,o⟩,h1,rfl⟩:=List.mem_map.1 hx
  exact (yP hf.2 h1).1 rfl
 ·intro m o hm
  rcases hmem hm with ⟨h1,h2⟩ | ⟨rfl,rfl⟩
  ·exact (h.obj.at_ m o h1).upd h2 (yP hf.2 h1).2
  ·exact hO _ y6
 ·intro m o b hm hβ
  rcases hmem hm with ⟨h1,h2⟩ | ⟨rfl,rfl⟩
  ·rw[yQ h2] at hβ;exact h.obj.un m o b h1 hβ
  ·rw[y6] at hβ;cases hβ
 ·intro m o m' o' b hm hm' hβ hβ'
  rcases hmem hm with ⟨h1,h2⟩ | ⟨rfl,rfl⟩
  ·rcases hmem hm' with ⟨h3,h4⟩ | ⟨rfl,rfl⟩
   ·rw[yQ h2] at hβ;rw[yQ h4] at hβ';exact h.obj.inj _ _ _ _ b h1 h3 hβ hβ'
   ·rw[y6] at hβ';cases hβ'
  ·rw[y6] at hβ;cases hβ
 ·intro m o b hm hβ
  rcases hmem hm with ⟨h1,h2⟩ | ⟨rfl,rfl⟩
  ·rw[yQ h2] at hβ;exact h.own m o b h1 hβ
  ·rw[y6] at hβ;cases hβ
 ·intro m o hm hb
  rcases hmem hm with ⟨h1,h2⟩ | ⟨rfl,rfl⟩
  ·rw[yQ h2];exact h.keep m o h1 hb
  ·have:=wV hf.2;omega
theorem Sim.fresh {ps:PS}(h:Sim w0 S0 K0 N (zB ps.tmps) ps.objs a w S β){n s:Nat}(hf:yR n ps=true) :
  Sim w0 S0 K0 N (zB ps.tmps) (ps.objs++[(n,.arr s (fun _=>[]))]) a w S (gF β n none):=h.freshO hf fun β' h=>.inl ⟨h,rfl⟩
theorem Sim.setT {ps:PS}(h:Sim w0 S0 K0 N (zB ps.tmps) objs a w S β){t:Nat}{x:PV}(hx:Rep w S β (a.tmps.getD t undef) x):Sim w0 S0 K0 N (zB (uG ps.tmps t x)) objs a w S β :=
 ⟨h.dfr,h.sz,h.ld,fun u=>by
  rw[fQ]
  by_cases e:u=t
  ·subst e;simpa using hx
  ·simpa [e] using h.tmp u,h.obj,h.own,h.keep⟩
theorem wA:∀ {l:List (Nat × Obj')} {n:Nat} {x:Obj'} {m:Nat} {o:Obj'},(l.map Prod.fst).Nodup→n∈l.map Prod.fst→(m,o)∈setO l n x→(m=n∧o=x)∨(m≠n∧(m,o)∈l)
 | (u,v)::r,n,x,m,o,hnd,hn,hm=>by
  simp only[List.map_cons,List.nodup_cons] at hnd
  simp only[setO] at hm
  cases hu:nqb u n with
  | true =>
   have:=yN hu
   subst this
   simp only[hu,cond_true,List.mem_cons] at hm
   rcases hm with hm | hm
   ·cases hm;exact .inl ⟨rfl,rfl⟩
   ·refine .inr ⟨fun e=>?_,List.mem_cons_of_mem _ hm⟩
    subst e
    exact hnd.1 (List.mem_map.2 ⟨_,hm,rfl⟩)
  | false =>
   have hne:u≠n:=fun e=>by subst e;simp at hu
   simp only[hu,cond_false,List.mem_cons] at hm
   rcases hm with hm | hm
   ·cases hm;exact .inr ⟨hne,List.mem_cons_self⟩
   ·have hn':n∈r.map Prod.fst:=by
     simp only[List.map_cons,List.mem_cons] at hn
     rcases hn with hn | hn
     ·exact absurd hn.symm hne
     ·exact hn
    rcases wA hnd.2 hn' hm with h | ⟨h1,h2⟩
    ·exact .inl h
    ·exact .inr ⟨h1,List.mem_cons_of_mem _ h2⟩
 | [],n,x,m,o,hnd,hn,hm=>by simp at hn
theorem uA:∀ {l:List (Nat × Obj')} {n:Nat} {x:Obj'},n∈l.map Prod.fst→(setO l n x).map Prod.fst=l.map Prod.fst
 | (u,v)::r,n,x,hn=>by
  simp only[setO]
  cases hu:nqb u n with
  | true=>have:=yN hu;subst this;rfl
  | false =>
   have hne:u≠n:=fun e=>by subst e;simp at hu
   have hn':n∈r.map Prod.fst:=by
    simp only[List.map_cons,List.mem_cons] at hn
    rcases hn with hn | hn
    ·exact absurd hn.symm hne
    ·exact hn
   simp only[cond_false,List.map_cons,uA hn']
 | [],n,x,hn=>by simp at hn
theorem zOZ:∀ {l:List (Nat × Obj')} {n:Nat} {x y:Obj'},(l.map Prod.fst).Nodup→(n,x)∈l→(n,y)∈l→x=y
 | (u,v)::r,n,x,y,hnd,h1,h2=>by
  simp only[List.map_cons,List.nodup_cons] at hnd
  rcases List.mem_cons.1 h1 with e1 | h1
  ·rcases List.mem_cons.1 h2 with e2 | h2
   ·cases e1;cases e2;rfl
   ·cases e1;exact absurd (List.mem_map.2 ⟨_,h2,rfl⟩) hnd.1
  ·rcases List.mem_cons.1 h2 with e2 | h2
   ·cases e2;exact absurd (List.mem_map.2 ⟨_,h1,rfl⟩) hnd.1
   ·exact zOZ hnd.2 h1 h2
theorem Sim.lend {ps:PS}(h:Sim w0 S0 K0 N (zB ps.tmps) ps.objs a w S β){n t:Nat}{o:Obj'}{s:Nat}{els:Unit→List (List D)}(ho:yG ps.objs n=some o)(hr:o8 o=some (s,els))(hf:fo n o (zB ps.tmps t)) :
  ∃ S' β',Sim w0 S0 K0 N (zB (uG ps.tmps t (Go.Proofs.YtgcpehdkdnkgeaaGreat.frz n o (zB ps.tmps t)))) (Go.Proofs.YtgcpehdkdnkgeaaGreat.setO ps.objs n (.log s els)) a w S' β':=by
 have hmem:=xK ho
 have hsz:=zFV hr
 have F:FrzAt w S (fun b i=>S b i∨(β n=some b∧i<szO o)) β n o:=⟨fun b i=>.inl,fun b h i hi=>.inr ⟨h,hi⟩,h.obj.at_ n o hmem,by cases o <;> first | rfl | cases hr⟩
 have hpo:∀ i,gI o i→i<szO o:=fun i hi=>by cases o <;> first | exact hi.elim | exact hi
 have hnin:n∈ps.objs.map Prod.fst:=List.mem_map.2 ⟨_,hmem,rfl⟩
 have h1:Sim w0 S0 K0 N (zB ps.tmps) (Go.Proofs.YtgcpehdkdnkgeaaGreat.setO ps.objs n (.log s els)) a w (fun b i=>S b i∨(β n=some b∧i<szO o)) β:=by
  refine⟨h.dfr,h.sz,?_,fun t=>(h.tmp t).mono F.sub,⟨by rw[uA hnin];exact h.obj.nd,?_,?_,?_⟩,?_,?_⟩
  ·refine⟨h.ld.size,h.ld.os,h.ld.tape,h.ld.output,h.ld.same,h.ld.shape,?_,?_,?_⟩
   ·rintro b i (hS | hβ)
    ·exact h.ld.bnd b i hS
    ·exact (h.obj.un n o b hmem hβ.1).2
   ·exact fun b i hb hS=>.inl (h.ld.sub b i hb hS)
   ·rintro b i hb hk (hS | hβ)
    ·exact h.ld.old b i hb hk hS
    ·rcases h.own n o b hmem hβ.1 with h' | h'
     ·omega
     ·exact absurd h' hk
  ·intro m x hm
   rcases wA h.obj.nd hnin hm with ⟨rfl,rfl⟩ | ⟨_,h2⟩
   ·exact RowAt.mono (tA hr (h.obj.at_ _ o hmem)) F.sub
   ·exact (h.obj.at_ m x h2).mono F.sub
  ·intro m x b hm hβ
   rcases wA h.obj.nd hnin hm with ⟨rfl,rfl⟩ | ⟨hne,h2⟩
   ·refine⟨?_,(h.obj.un _ o b hmem hβ).2⟩
    rintro i (hS | hS)
    ·have:=hpo i ((h.obj.un _ o b hmem hβ).1 i hS)
     rw[hsz] at this
     exact this
    ·rw[hsz] at hS
     exact hS.2
   ·refine⟨?_,(h.obj.un m x b h2 hβ).2⟩
    rintro i (hS | hS)
    ·exact (h.obj.un m x b h2 hβ).1 i hS
    ·exact absurd (h.obj.inj _ _ _ _ b h2 hmem hβ hS.1) hne
  ·intro m x m' x' b hm hm' hβ hβ'
   have key:∀ {m x},(m,x)∈Go.Proofs.YtgcpehdkdnkgeaaGreat.setO ps.objs n (.log s els)→∃ x',(m,x')∈ps.objs:=by
    intro m x hm
    rcases wA h.obj.nd hnin hm with ⟨rfl,rfl⟩ | ⟨_,h2⟩
    ·exact⟨o,hmem⟩
    ·exact⟨x,h2⟩
   obtain⟨x1,h1⟩:=key hm
   obtain⟨x2,h2⟩:=key hm'
   exact h.obj.inj _ _ _ _ b h1 h2 hβ hβ'
  ·intro m x b hm hβ
   rcases wA h.obj.nd hnin hm with ⟨rfl,rfl⟩ | ⟨_,h2⟩
   ·exact h.own _ o b hmem hβ
   ·exact h.own m x b h2 hβ
  ·intro m x hm hb
   rcases wA h.obj.nd hnin hm with ⟨rfl,rfl⟩ | ⟨_,h2⟩
   ·exact h.keep _ o hmem hb
   ·exact h.keep m x h2 hb
 exact⟨_,β,h1.setT (frz2 F (h.tmp t) hf)⟩
theorem Sim.pub {ps:PS}(h:Sim w0 S0 K0 N (zB ps.tmps) ps.objs a w S β){n:Nat}{o:Obj'}{s:Nat}{els:Unit→List (List D)}(ho:yG ps.objs n=some o)(hr:o8 o=some (s,els)) :
  ∃ S' β',Sim w0 S0 K0 N (zB ps.tmps) (Go.Proofs.YtgcpehdkdnkgeaaGreat.setO ps.objs n (.lent s els)) a w S' β':=by
 have hmem:=xK ho
 have hsz:=zFV hr
 have F:FrzAt w S (fun b i=>S b i∨(β n=some b∧i<szO o)) β n o:=⟨fun b i=>.inl,fun b h i hi=>.inr ⟨h,hi⟩,h.obj.at_ n o hmem,by cases o <;> first | rfl | cases hr⟩
 have hpo:∀ i,gI o i→i<szO o:=fun i hi=>by cases o <;> first | exact hi.elim | exact hi
 have hnin:n∈ps.objs.map Prod.fst:=List.mem_map.2 ⟨_,hmem,rfl⟩
 have h1:Sim w0 S0 K0 N (zB ps.tmps) (Go.Proofs.YtgcpehdkdnkgeaaGreat.setO ps.objs n (.lent s els)) a w (fun b i=>S b i∨(β n=some b∧i<szO o)) β:=by
  refine⟨h.dfr,h.sz,?_,fun t=>(h.tmp t).mono F.sub,⟨by rw[uA hnin];exact h.obj.nd,?_,?_,?_⟩,?_,?_⟩
  ·refine⟨h.ld.size,h.ld.os,h.ld.tape,h.ld.output,h.ld.same,h.ld.shape,?_,?_,?_⟩
   ·rintro b i (hS | hβ)
    ·exact h.ld.bnd b i hS
    ·exact (h.obj.un n o b hmem hβ.1).2
   ·exact fun b i hb hS=>.inl (h.ld.sub b i hb hS)
   ·rintro b i hb hk (hS | hβ)
    ·exact h.ld.old b i hb hk hS
    ·rcases h.own n o b hmem hβ.1 with h' | h'
     ·omega
     ·exact absurd h' hk
  ·intro m x hm
   rcases wA h.obj.nd hnin hm with ⟨rfl,rfl⟩ | ⟨_,h2⟩
   ·exact⟨RowAt.mono (tA hr (h.obj.at_ _ o hmem)) F.sub,fun b hb i hi=>F.new b hb i (by rw[hsz];exact hi)⟩
   ·exact (h.obj.at_ m x h2).mono F.sub
  ·intro m x b hm hβ
   rcases wA h.obj.nd hnin hm with ⟨rfl,rfl⟩ | ⟨hne,h2⟩
   ·refine⟨?_,(h.obj.un _ o b hmem hβ).2⟩
    rintro i (hS | hS)
    ·have:=hpo i ((h.obj.un _ o b hmem hβ).1 i hS)
     rw[hsz] at this
     exact this
    ·rw[hsz] at hS
     exact hS.2
   ·refine⟨?_,(h.obj.un m x b h2 hβ).2⟩
    rintro i (hS | hS)
    ·exact (h.obj.un m x b h2 hβ).1 i hS
    ·exact absurd (h.obj.inj _ _ _ _ b h2 hmem hβ hS.1) hne
  ·intro m x m' x' b hm hm' hβ hβ'
   have key:∀ {m x},(m,x)∈Go.Proofs.YtgcpehdkdnkgeaaGreat.setO ps.objs n (.lent s els)→∃ x',(m,x')∈ps.objs:=by
    intro m x hm
    rcases wA h.obj.nd hnin hm with ⟨rfl,rfl⟩ | ⟨_,h2⟩
    ·exact⟨o,hmem⟩
    ·exact⟨x,h2⟩
   obtain⟨x1,h1⟩:=key hm
   obtain⟨x2,h2⟩:=key hm'
   exact h.obj.inj _ _ _ _ b h1 h2 hβ hβ'
  ·intro m x b hm hβ
   rcases wA h.obj.nd hnin hm with ⟨rfl,rfl⟩ | ⟨_,h2⟩
   ·exact h.own _ o b hmem hβ
   ·exact h.own m x b h2 hβ
  ·intro m x hm hb
   rcases wA h.obj.nd hnin hm with ⟨rfl,rfl⟩ | ⟨_,h2⟩
   ·exact h.keep _ o hmem hb
   ·exact h.keep m x h2 hb
 exact⟨_,β,h1⟩
theorem Sim.setO (h:Sim w0 S0 K0 N τ objs a w S β){n:Nat}{x:Obj'}(hn:n∈objs.map Prod.fst)(hx:ObjAt w S β n x)(hpub:∀ o0,(n,o0)∈objs→∀ i,gI o0 i→gI x i):Sim w0 S0 K0 N τ (Go.Proofs.YtgcpehdkdnkgeaaGreat.setO objs n x) a w S β:=by
 obtain⟨⟨n',o0⟩,hm0,rfl⟩:=List.mem_map.1 hn
 have key:∀ {m o},(m,o)∈Go.Proofs.YtgcpehdkdnkgeaaGreat.setO objs n' x→∃ o',(m,o')∈objs:=by
  intro m o hm
  rcases wA h.obj.nd hn hm with ⟨rfl,rfl⟩ | ⟨_,h2⟩
  ·exact⟨o0,hm0⟩
  ·exact⟨o,h2⟩
 refine⟨h.dfr,h.sz,h.ld,h.tmp,⟨by rw[uA hn];exact h.obj.nd,?_,?_,?_⟩,?_,?_⟩
 ·intro m o hm
  rcases wA h.obj.nd hn hm with ⟨rfl,rfl⟩ | ⟨_,h2⟩
  ·exact hx
  ·exact h.obj.at_ m o h2
 ·intro m o b hm hβ
  rcases wA h.obj.nd hn hm with ⟨rfl,rfl⟩ | ⟨_,h2⟩
  ·exact⟨fun i hS=>hpub o0 hm0 i ((h.obj.un _ o0 b hm0 hβ).1 i hS),(h.obj.un _ o0 b hm0 hβ).2⟩
  ·exact h.obj.un m o b h2 hβ
 ·intro m o m' o' b hm hm' hβ hβ'
  obtain⟨x1,h1⟩:=key hm
  obtain⟨x2,h2⟩:=key hm'
  exact h.obj.inj _ _ _ _ b h1 h2 hβ hβ'
 ·intro m o b hm hβ
  obtain⟨o',h1⟩:=key hm
  exact h.own m o' b h1 hβ
 ·intro m o hm hb
  obtain⟨o',h1⟩:=key hm
  exact h.keep m o' h1 hb
theorem zCC (cs:List PV)(j k:Nat)(x:PV)(hk:k<cs.length):(cs.set j x).getD k .any=if j=k then x else cs.getD k .any:=by
 simp only[List.getD_eq_getElem?_getD,List.getElem?_set]
 by_cases h:j=k
 ·subst h;simp [hk]
 ·simp [h]
theorem pZ {n:Nat}{v pv}(h:Rep w S β v pv):Rep w S β v (sc0 n pv):=by
 cases pv with
 | agg cs=>exact xS _
 | tup cs=>exact xS _
 | fn f cs=>exact xS _
 | ptr m off=>simp only[sc0];cases nqb m n <;> first | exact h | exact xS _
 | aptr m s i off=>simp only[sc0];cases nqb m n <;> first | exact h | exact xS _
 | osl m s i len=>simp only[sc0];cases nqb m n <;> first | exact h | exact xS _
 | _=>exact h
theorem zBR {n:Nat}{v pv}(h:Rep w S β v pv):Rep w S β v (sc1 n pv):=by
 cases pv with
 | agg cs =>
  obtain⟨vs,rfl,h1,h2⟩:=v9 h
  exact .agg (by rw[zL];exact h1) fun j hj=>by rw[zL] at hj;rw[yC _ rfl];exact pZ (h2 j hj)
 | tup cs =>
  obtain⟨vs,rfl,h1,h2⟩:=kO h
  exact .tup (by rw[zL];exact h1) fun j hj=>by rw[zL] at hj;rw[yC _ rfl];exact pZ (h2 j hj)
 | fn f cs =>
  obtain⟨vs,rfl,h1,h2⟩:=kQ h
  exact .fn (by rw[zL];exact h1) fun j hj=>by rw[zL] at hj;rw[yC _ rfl];exact pZ (h2 j hj)
 | _=>exact pZ (n:=n) h
theorem zBP {n:Nat}{v pv}(h:Rep w S β v pv):Rep w S β v (scr n pv):=by
 cases pv with
 | agg cs =>
  obtain⟨vs,rfl,h1,h2⟩:=v9 h
  exact .agg (by rw[zL];exact h1) fun j hj=>by rw[zL] at hj;rw[yC _ rfl];exact zBR (h2 j hj)
 | tup cs =>
  obtain⟨vs,rfl,h1,h2⟩:=kO h
  exact .tup (by rw[zL];exact h1) fun j hj=>by rw[zL] at hj;rw[yC _ rfl];exact zBR (h2 j hj)
 | fn f cs =>
  obtain⟨vs,rfl,h1,h2⟩:=kQ h
  exact .fn (by rw[zL];exact h1) fun j hj=>by rw[zL] at hj;rw[yC _ rfl];exact zBR (h2 j hj)
 | _=>exact pZ (n:=n) h
theorem pX (n:Nat):scr n .any=.any:=rfl
theorem Sim.drop {ps:PS}(h:Sim w0 S0 K0 N (zB ps.tmps) ps.objs a w S β)(n:Nat) :
  Sim w0 S0 K0 N (zB (vW (scr n) ps.tmps)) (xL (scr n) (wR ps.objs n)) a w S β:=by
 refine⟨h.dfr,h.sz,h.ld,fun t=>by rw[kF _ (pX n)];exact zBP (h.tmp t),⟨?_,?_,?_,?_⟩,?_,?_⟩
 ·rw[vM];exact (sA _ _).nodup h.obj.nd
 ·intro m o' hm
  obtain⟨o'',h1,h2⟩:=xX _ hm
  obtain⟨h3,h4⟩:=wE h1
  have hat:=h.obj.at_ m o'' h3
  cases o'' with
  | box cs =>
   subst h2
   obtain⟨b,vs,T,e1,e2,e3,e4⟩:=hat
   exact⟨b,vs,T,e1,e2,by rw[zL];exact e3,fun j hj=>by rw[zL] at hj;rw[yC _ (pX n)];exact zBP (e4 j hj)⟩
  | arr s els=>subst h2;exact hat
  | log s els=>subst h2;exact hat
  | lent s els=>subst h2;exact hat
 ·intro m o' b hm hβ
  obtain⟨o'',h1,h2⟩:=xX _ hm
  have:=h.obj.un m o'' b (wE h1).1 hβ
  refine⟨fun i hS=>?_,this.2⟩
  subst h2
  have:=this.1 i hS
  cases o'' <;> exact this
 ·intro m o' m' o'' b hm hm' hβ hβ'
  obtain⟨x,h1,_⟩:=xX _ hm
  obtain⟨y,h2,_⟩:=xX _ hm'
  exact h.obj.inj _ _ _ _ b (wE h1).1 (wE h2).1 hβ hβ'
 ·intro m o' b hm hβ
  obtain⟨x,h1,_⟩:=xX _ hm
  exact h.own m x b (wE h1).1 hβ
 ·intro m o' hm hb
  obtain⟨x,h1,_⟩:=xX _ hm
  exact h.keep m x (wE h1).1 hb
theorem Wk.sound {ps ps':PS}(k:Wk ps ps'):∀ {S β},Sim w0 S0 K0 N (zB ps.tmps) ps.objs a w S β→∃ S' β',Sim w0 S0 K0 N (zB ps'.tmps) ps'.objs a w S' β':=by
 induction k with
 | refl ps=>intro S β h;exact⟨S,β,h⟩
 | le ht ho hn=>intro S β h;exact⟨S,β,h.le ht ho hn⟩
 | frz n ho hc hT hO=>intro S β h;exact h.frz ho hc hT hO
 | lend n t ho hr hf=>intro S β h;exact h.lend ho hr hf
 | pub n ho hr=>intro S β h;exact h.pub ho hr
 | fresh n s hf=>intro S β h;exact⟨S,gF β n none,h.fresh hf⟩
 | drop n=>intro S β h;exact⟨S,β,h.drop n⟩
 | adoptT n s t hf ht =>
  intro S β h
  refine⟨S,gF β n none,(h.fresh hf).setT ?_⟩
  have:=h.tmp t
  rw[ht] at this
  obtain⟨aa,hv⟩:=uL this
  rw[hv]
  exact .osl0 y6 rfl rfl
 | @adoptB ps n s m j cs hf ho hj =>
  intro S β h
  have hmem:=xK ho
  have hf':=hf
  simp only[yR,Bool.and_eq_true] at hf'
  have hmn:=(yP hf'.2 hmem).1
  have h1:=h.fresh (s:=s) hf
  obtain⟨b,vs,T,e1,e2,e3,e4⟩:=h.obj.at_ m _ hmem
  have hin:m∈(ps.objs++[(n,Obj'.arr s (fun _=>[]))]).map Prod.fst:=by
   rw[List.map_append]
   exact List.mem_append_left _ (List.mem_map.2 ⟨_,hmem,rfl⟩)
  have hjl:j<cs.length:=by
   rcases Nat.lt_or_ge j cs.length with h' | h'
   ·exact h'
   ·rw[List.getElem?_eq_none h'] at hj;cases hj
  have h2:=h1.setO (n:=m) (x:=.box (cs.set j (.osl n s (fun _=>0) (fun _=>0)))) hin ⟨b,vs,T,by rw[yQ hmn];exact e1,e2,by simpa using e3,fun k hk=>by
   simp only[List.length_set] at hk
   rw[zCC _ _ _ _ hk]
   by_cases hjk:j=k
   ·subst hjk
    rw[if_pos rfl]
    have:=e4 j hk
    have hg:cs.getD j .any=.nil:=by rw[List.getD_eq_getElem?_getD,hj];rfl
    rw[hg] at this
    obtain⟨aa,hv⟩:=uL this
    rw[hv]
    exact .osl0 y6 rfl rfl
   ·rw[if_neg hjk]
    exact (e4 k hk).upd (xD rfl (yP hf'.2 hmem).2 k)⟩ (fun o0 ho0 i hp=>by
   have hms:(m,Obj'.box cs)∈ps.objs++[(n,Obj'.arr s (fun _=>[]))]:=List.mem_append_left _ hmem
   have:=zOZ h1.obj.nd ho0 hms
   rw[this] at hp
   exact hp.elim)
  refine⟨S,gF β n none,?_⟩
  have:Go.Proofs.YtgcpehdkdnkgeaaGreat.setO (ps.objs++[(n,Obj'.arr s (fun _=>[]))]) m (.box (cs.set j (.osl n s (fun _=>0) (fun _=>0))))=Go.Proofs.YtgcpehdkdnkgeaaGreat.setO ps.objs m (.box (cs.set j (.osl n s (fun _=>0) (fun _=>0))))++[(n,Obj'.arr s (fun _=>[]))]:=by
   have gen:∀ (l:List (Nat × Obj')) (k:List (Nat × Obj')) (x:Obj'),m∈l.map Prod.fst→Go.Proofs.YtgcpehdkdnkgeaaGreat.setO (l++k) m x=Go.Proofs.YtgcpehdkdnkgeaaGreat.setO l m x++k:=by
    intro l k x hm
    induction l with
    | nil=>simp at hm
    | cons p r ih =>
     obtain⟨u,v⟩:=p
     simp only[List.cons_append,Go.Proofs.YtgcpehdkdnkgeaaGreat.setO]
     cases hu:nqb u m with
     | true=>rfl
     | false =>
      have hne:u≠m:=fun e=>by subst e;simp at hu
      simp only[List.map_cons,List.mem_cons] at hm
      simp only[cond_false,List.cons_append]
      rw[ih (hm.resolve_left fun e=>hne e.symm)]
   exact gen _ _ _ (List.mem_map.2 ⟨_,hmem,rfl⟩)
  rw[this] at h2
  exact h2
 | trans _ _ ih1 ih2=>intro S β h;obtain⟨S',β',h'⟩:=ih1 h;exact ih2 h'
theorem zID (h:Sim w0 S0 K0 N τ objs a w S β){pv:PV}{v:Value}{K:PV→Prop}(hl:ldV objs pv K)(hr:Rep w S β v pv):∃ pv',K pv'∧Rep w S β v pv':=by
 unfold ldV at hl
 cases hn:lnt objs pv with
 | false=>rw[hn] at hl;exact⟨pv,hl,hr⟩
 | true =>
  rw[hn] at hl
  rcases hl.h with hK | ⟨n,s,els,h1,h2,h3⟩
  ·exact⟨pv,hK,hr⟩
  ·have hat:=h.obj.at_ n _ (xK h1)
   exact⟨_,h3,frz2 (S':=S) (o:=.lent s els) ⟨fun _ _ x=>x,fun b hb i hi=>hat.2 b hb i hi,hat,rfl⟩ hr h2⟩
theorem zAH {o:Oper}{K:PV→Prop}{Km:Act→World→Prop}{Q:Exit→Act→World→Prop}(h:Sim w0 S0 K0 N τ objs a w S β)(hs:sop objs o.op (ev τ) K)
  (hk:∀ pv w' S' v,K pv→Leads w S vV w' S'→Rep w' S' β v pv→Km (a.put o.dst v) w'):o.wp Pg a w Km Q:=by
 have he:∀ x,Rep w S β (a.eval x) (ev τ x):=fun x=>h.eval x
 have hrefl:Leads w S vV w S:=Leads.refl h.ld.bnd
 have fin:∀ pv v,(execOp a.eval o).run Pg w=.ok (.value v) w→K pv→Rep w S β v pv→o.wp Pg a w Km Q:=fun pv v h1 h2 h3=>aB h1 (hk pv w S v h2 hrefl h3)
 unfold sop at hs
 split at hs
 ·rename_i x hop;exact fin _ _ (by simp [execOp,hop]) hs (he x)
 ·rename_i x hop;exact fin _ _ (by simp [execOp,hop]) hs (he x)
 ·rename_i c x y hop
  obtain⟨b,hb,ht,hf⟩:=nF (he c) hs
  cases b with
  | true=>exact fin _ _ (by simp [execOp,hop,hb,asBool]) (ht rfl) (he x)
  | false=>exact fin _ _ (by simp [execOp,hop,hb,asBool]) (hf rfl) (he y)
 ·rename_i t parts hop
  split at hs
  ·rename_i n fs z ht
   split at hs
   ·rename_i cs hf
    obtain⟨vs,h1,h2⟩:=zA6 ht he hf
    exact fin _ _ (by simp [execOp,hop,h1]) hs (.agg h2.1 h2.2)
   ·exact hs.elim
  ·rename_i len n ag z ht
   split at hs
   ·rename_i cs hf
    obtain⟨vs,h1,h2⟩:=o7 ht he hf
    exact fin _ _ (by simp [execOp,hop,h1]) hs (.agg h2.1 h2.2)
   ·exact hs.elim
  ·exact hs.elim
 ·rename_i t len parts hop
  split at hs
  ·rename_i n b z ht
   split at hs
   ·rename_i els hf
    cases hc:(nle (len * n) 1000 && t7 els) with
    | false=>simp [hc] at hs
    | true =>
     simp only[hc,cond_true] at hs
     simp only[Bool.and_eq_true] at hc
     obtain⟨w',S',v,h1,h2,h3⟩:=i7 ht h.ld.bnd he hf (pA hc.1) hc.2
     exact aB (by simp [execOp,hop,h1]) (hk _ _ _ _ hs h2 h3)
   ·exact hs.elim
  ·exact hs.elim
 ·rename_i t x hop
  split at hs
  ·rename_i cs off hx
   have hr:=he x
   rw[hx] at hr
   obtain⟨b,o',vals,hS,hv,hf,hc,hrr⟩:=fI hr
   obtain⟨pv,val,h1,h2,h3⟩:=sM (w:=w) (S:=S) (β:=β) hs vals hc (zA7 hf hrr)
   exact fin pv val (by simp [execOp,hop,hv,h2]) h1 h3
  ·rename_i n off hx
   split at hs
   ·rename_i cs ho
    have hr:=he x
    rw[hx] at hr
    obtain⟨b,hβ,hv⟩:=kP hr
    obtain⟨b',vs,T,hβ',hb,hsz,hrr⟩:=zBW h ho
    rw[hβ] at hβ'
    cases hβ'
    obtain⟨pv,val,h1,h2,h3⟩:=sM (w:=w) (S:=S) (β:=β) (b:=b) (o:=0) hs (fun j=>vs.getD j undef) (fun j hj=>by rw[Nat.zero_add];exact bX hb j (by omega)) hrr
    obtain⟨pv',h1',h3'⟩:=zID h h1 h3
    exact fin pv' val (by rw[Nat.zero_add] at h2;simp [execOp,hop,hv,h2]) h1' h3'
   ·exact hs.elim
  ·rename_i n s i off hx
   split at hs
   ·rename_i s' els ho
    cases hss:nqb s s' with
    | false=>simp [hss] at hs
    | true =>
     simp only[hss,cond_true] at hs
     have:=yN hss
     subst this
     obtain⟨c,hcf,hcl,hck,hK⟩:=hs.h
     have hr:=he x
     rw[hx] at hr
     obtain⟨b,hβ,hv⟩:=j2 hr
     have hlt:i ()<(els ()).length:=by
      rcases Nat.lt_or_ge (i ()) (els ()).length with h' | h'
      ·exact h'
      ·rw[List.getElem?_eq_none h'] at hck;cases hck
     rcases h.obj.at_ n _ (xK ho) with ⟨hn,he0⟩ | ⟨b',vs,T,hβ',hb,hsz,hwid,hrr⟩
     ·rw[he0] at hlt;simp at hlt
     ·rw[hβ] at hβ'
      cases hβ'
      have hg:(els ()).getD (i ()) []=yW c:=by rw[List.getD_eq_getElem?_getD,hck];rfl
      obtain⟨pv,val,h1,h2,h3⟩:=sM (w:=w) (S:=S) (β:=β) (b:=b) (o:=i () * s) hK (fun j=>vs.getD (i () * s+j) undef)
       (fun j hj=>bX hb _ (by
        have:i () * s+s≤(els ()).length * s:=by
         calc i () * s+s=(i ()+1) * s:=by rw[Nat.add_mul];omega
          _≤_:=Nat.mul_le_mul_right _ hlt
        omega))
       (fun j hj=>by
        have:=(hrr (i ()) j hlt (by omega)).1
        rw[hg,kE] at this
        exact .c (xD rfl hcf j) this)
      exact fin pv val (by simp [execOp,hop,hv,h2]) h1 h3
   ·exact hs.elim
  ·exact hs.elim
 ·rename_i bop t x y yt hop
  obtain⟨pv,val,h1,h2,h3⟩:=zFI (ox:=x) (oy:=y) (fun c e=>by rw[e];rfl) (he x) (he y) hs
  exact fin pv val (by simp only[execOp,hop,Sem.run_bind] at h2 ⊢;simp [h2]) h1 h3
 ·rename_i op t x hop
  have hr:=he x
  split at hs
  ·rename_i hx;rw[hx] at hr;exact fin _ (.bool false) (by simp [execOp,hop,Op.unary,mO hr]) hs (.c rfl (.bool false))
  ·rename_i hx;rw[hx] at hr;exact fin _ (.bool true) (by simp [execOp,hop,Op.unary,mP hr]) hs (.c rfl (.bool true))
  ·rename_i b hx;rw[hx] at hr;exact fin _ (.bool (!(b ()))) (by simp [execOp,hop,Op.unary,fJ hr]) hs (zCU _)
  ·rename_i b hx;rw[hx] at hr;exact fin _ (.bool (b ())) (by simp [execOp,hop,Op.unary,gZ hr]) hs (rQ _)
  ·rename_i k n hx
   rw[hx] at hr
   obtain⟨pv,h1,h2⟩:=rD (w:=w) (S:=S) (β:=β) hs
   exact fin pv _ (by simp [execOp,hop,Op.unary,vE hr,Op.intArith]) h1 h2
  ·exact hs.elim
 ·rename_i src dst x hop
  cases hno:(ty src).isNo with
  | true=>simp [hno] at hs
  | false =>
   simp only[hno,cond_false] at hs
   split at hs
   ·rename_i k z k' n ht hx
    have hr:=he x
    rw[hx] at hr
    obtain⟨d,hd⟩:=zPJ hno
    obtain⟨i,d',zv,_,h2,_,_,_,_,_,h8,_⟩:=zES ht
    have h8:=h8 k z rfl
    subst h8
    refine fin _ _ ?_ hs (cO k (fun _=>nx k (n ())))
    cases d <;> simp [execOp,hop,convert,run_underlying hd,run_underlying h2,vE hr,Conv.intToInt,nx]
   ·rename_i els ht hx
    have hr:=he x
    rw[hx] at hr
    obtain⟨⟨e,h1,h2⟩,h3,ns,h4,h5⟩:=hs.h
    obtain⟨a,ln,cap,hv,hb⟩:=zFH h4 (bM hr)
    exact fin _ (.string (iC ns)) (by simp [execOp,hop,hv,run_convert_bytes_string w src dst e a ln cap h1 h2 h3,hb]) h5 (.c rfl (.str _))
   ·exact hs.elim
 ·rename_i t x i hop
  split at hs
  ·rename_i n fs z ht
   split at hs
   ·rename_i off sz ag hi
    have hr:=he x
    split at hs
    ·rename_i m o' hx
     rw[hx] at hr
     obtain⟨b,hβ,hv⟩:=kP hr
     exact fin _ _ (by simp [execOp,hop,hv,aL ht hi]) hs (.ptr hβ)
    ·rename_i m s j o' hx
     rw[hx] at hr
     obtain⟨b,hβ,hv⟩:=j2 hr
     exact fin _ (.pointer (some ⟨b,j () * s+(o'+off),none⟩)) (by simp [execOp,hop,hv,aL ht hi,Nat.add_assoc]) hs (.aptr hβ)
    ·rename_i cs o' hx
     rw[hx] at hr
     obtain⟨b,oo,vals,hS,hv,hf,hc,hrr⟩:=fI hr
     exact fin _ (.pointer (some ⟨b,oo+(o'+off),none⟩)) (by simp [execOp,hop,hv,aL ht hi,Nat.add_assoc]) hs (.dptr vals hS hf hc hrr)
    ·exact hs.elim
   ·exact hs.elim
  ·exact hs.elim
 ·rename_i t x i hop
  split at hs
  ·rename_i n fs z ht
   split at hs
   ·rename_i off sz ag hi
    obtain⟨inf,fields,zs,h1,h2,h3,h4,h5,h6,h7,h8⟩:=iI ht
    rw[h6,List.getElem?_map] at hi
    obtain⟨f,hf,hfe⟩:=Option.map_eq_some_iff.1 hi
    cases ag with
    | false=>exact hs.elim
    | true =>
     simp only at hs
     simp only[Prod.mk.injEq] at hfe
     obtain⟨q1,q2,q3⟩:=hfe
     split at hs
     ·rename_i cs hx
      have hr:=he x
      rw[hx] at hr
      cases hle:nle (off+sz) cs.length with
      | false=>simp [hle] at hs
      | true =>
       simp only[hle] at hs
       have hle:off+sz≤cs.length:=by simp [nle] at hle;omega
       obtain⟨vs,hv,hl,hrr⟩:=v9 hr
       obtain⟨j,hj,hjs⟩:=uI (t:=f.type) (h8 f (List.mem_of_getElem? hf))
       obtain⟨d,hd⟩:∃ d,Pg.underlying f.type=some d:=by
        unfold qD at q3
        cases hu:Pg.underlying f.type with
        | none=>rw[hu] at q3;cases q3
        | some d=>exact⟨d,rfl⟩
       have hd':=sJ hd w
       rw[q3] at hd'
       have hfa:fields[i]?=some f:=by rw[←hf,Array.getElem?_toList]
       refine fin _ (.agg (vs.extract off (off+sz))) ?_ hs (.agg ?_ ?_)
       ·simp [execOp,hop,hv,Instr.field,run_underlying h2,hfa,asAgg,part,hd',vC hj,hjs,q1,q2]
       ·simp;omega
       ·intro k hk
        have hk':k<sz:=by simp at hk;omega
        have:=hrr (off+k) (by omega)
        have e1:(vs.extract off (off+sz)).getD k undef=vs.getD (off+k) undef:=by
         simp only[Array.getD_eq_getD_getElem?]
         rw[Array.getElem?_extract,if_pos (by omega)]
        have e2:((cs.drop off).take sz).getD k .any=cs.getD (off+k) .any:=by
         simp only[List.getD_eq_getElem?_getD]
         rw[List.getElem?_take,if_pos hk',List.getElem?_drop]
        rw[e1,e2]
        exact this
     ·exact hs.elim
   ·exact hs.elim
  ·exact hs.elim
 ·rename_i t x i hop
  split at hs
  ·rename_i n b z els k kv ht hx hi
   obtain⟨inf,el,j,zv,h1,h2,h3,h4,h5,h6,h7,h8,h9,h10,h11,h12⟩:=qM ht
   have hr:=he x;have hri:=he i
   rw[hx] at hr;rw[hi] at hri
   obtain⟨hk0,c,hcf,hcl,hck,hK⟩:=hs.h
   obtain⟨bb,oo,cap,hv,hlt,hrep⟩:=zN5 (β:=β) (bM hr) h10 hcf hcl hck
   refine fin _ _ ?_ hK hrep
   have:=dL (w:=w) h4 h5 bb oo (els ()).length cap k (kv ()) hk0 (by omega)
   rw[h7] at this
   simp [execOp,hop,hv,vE hri,this]
  ·rename_i n b z m s o' len k kv ht hx hi
   obtain⟨inf,el,j,zv,h1,h2,h3,h4,h5,h6,h7,h8,h9,h10,h11,h12⟩:=qM ht
   have hr:=he x;have hri:=he i
   rw[hx] at hr;rw[hi] at hri
   cases hss:nqb n s with
   | false=>simp [hss] at hs
   | true =>
    simp only[hss,cond_true] at hs
    have:=yN hss
    subst this
    obtain⟨hrg,hK⟩:=hs
    rcases gQ hr with ⟨_,_,hl0,_⟩ | ⟨bb,cap,vs,T,hβ,hlc,hb,hsz,hv⟩
    ·have:=hrg.lo;have:=hrg.hi;omega
    ·refine fin _ _ ?_ hK (.aptr hβ)
     have:=dL (w:=w) h4 h5 bb (o' () * n) (len ()) cap k (kv ()) hrg.lo hrg.hi
     rw[h7] at this
     simp [execOp,hop,hv,vE hri,this,Nat.add_mul]
  ·rename_i len n ag z m o' k kv ht hx hi
   obtain⟨inf,el,zs,h1,h2,h3,h4,h5,h6,h7,h8,h8',h8'',h9⟩:=rV ht
   have hr:=he x;have hri:=he i
   rw[hx] at hr;rw[hi] at hri
   obtain⟨jj,hj1,hj2,hK⟩:=hs.h
   obtain⟨b,hβ,hv⟩:=kP hr
   obtain⟨j,hj,hjs⟩:=uI (t:=el) (by omega)
   refine fin _ _ ?_ hK (.ptr hβ)
   have:=p9 (w:=w) h2 hj b o' k (kv ()) (by omega) (by omega)
   rw[hjs,h6,hj1] at this
   simp [execOp,hop,hv,vE hri,hj1,this]
  ·exact hs.elim
 ·rename_i t x i hop
  split at hs
  ·rename_i len z cs k kv ht hx hi
   obtain⟨inf,el,zs,h1,h2,h3,h4,h5,h6,h7,h8,h8',h8'',h9⟩:=rV ht
   have hr:=he x;have hri:=he i
   rw[hx] at hr;rw[hi] at hri
   cases hll:nqb len cs.length with
   | false=>simp [hll] at hs
   | true =>
    simp only[hll,cond_true] at hs
    have hll:=yN hll
    obtain⟨jj,hj1,hj2,hK⟩:=hs.h
    obtain⟨vs,hv,hl,hrr⟩:=v9 hr
    obtain⟨j,hj,hjs⟩:=uI (t:=el) (by omega)
    have hs1:j.size=1:=by omega
    obtain⟨d,hd⟩:=Option.isSome_iff_exists.1 h8''
    have hlt:jj<vs.size:=by omega
    refine fin _ (vs.getD jj undef) ?_ hK (hrr jj (by omega))
    have hd':=sJ hd w
    rw[h7] at hd'
    simp [execOp,hop,hv,vE hri,hj1,Instr.index,asIntOf,run_underlying h2,hj2,vC hj,hs1,part,hd',hlt]
  ·exact hs.elim
 ·rename_i x i hop
  have hr:=he x
  split at hs
  ·rename_i vs hx
   rw[hx] at hr
   cases hlt:nlt i vs.length with
   | false=>simp [hlt] at hs
   | true =>
    simp only[hlt,cond_true] at hs
    have hlt:i<vs.length:=by simp [nlt] at hlt;omega
    obtain⟨us,hv,hl,hrr⟩:=kO hr
    have hlu:i<us.size:=by omega
    exact fin _ (us.getD i undef) (by simp [execOp,hop,hv,Instr.extract,hlu]) hs (hrr i hlt)
  ·exact hs.elim
 ·rename_i t x lo hi hop
  have hr:=he x
  split at hs
  ·rename_i n b z els ht hx
   obtain⟨inf,el,j,zv,h1,h2,h3,h4,h5,h6,h7,h8,h9,h10,h11,h12⟩:=qM ht
   rw[hx] at hr
   split at hs
   ·rename_i l hh hl hhh
    obtain⟨hok,hw,hK⟩:=hs
    have hl':=jJ he hl;have hh':=jJ he hhh
    have:=hok.lo;have:=hok.mid;have:=hok.hi
    obtain⟨aa,cap,hv,hcap,hrep⟩:=zE2 (bM hr) hw.h (l:=(l ()).toNat) (h:=(hh ()).toNat) (by omega) (by omega)
    refine fin _ _ ?_ hK (.c rfl hrep)
    have:=dU (w:=w) (ρ:=a.eval) (a:=aa) h4 h5 hcap hok.lo hok.mid hok.hi (hl'.imp (fun h=>⟨h.1,by rw[h.2]⟩) id) (hh'.imp (fun h=>⟨h.1,by rw[h.2]⟩) id)
    rw[h7] at this
    simp only[execOp,hop,hv,Sem.run_bind,this,Result.andThen_ok,Sem.run_pure]
   ·exact hs.elim
  ·rename_i n b z m s o' len ht hx
   obtain⟨inf,el,j,zv,h1,h2,h3,h4,h5,h6,h7,h8,h9,h10,h11,h12⟩:=qM ht
   rw[hx] at hr
   split at hs
   ·rename_i l hh hl hhh
    cases hss:nqb n s with
    | false=>simp [hss] at hs
    | true =>
     simp only[hss,cond_true] at hs
     have:=yN hss
     subst this
     obtain⟨hok,hne,hK⟩:=hs
     have hl':=jJ he hl;have hh':=jJ he hhh
     have:=hok.lo;have:=hok.mid;have:=hok.hi;have:=hne.lt
     rcases gQ hr with ⟨_,_,hl0,_⟩ | ⟨bb,cap,vs,T,hβ,hlc,hb,hsz,hv⟩
     ·omega
     ·refine fin _ _ ?_ hK (.osl (cap:=cap - (l ()).toNat) hβ (by omega) hb ?_)
      ·have:=dU (w:=w) (ρ:=a.eval) (a:=some ⟨bb,o' () * n,none⟩) h4 h5 hlc hok.lo hok.mid hok.hi (hl'.imp (fun h=>⟨h.1,by rw[h.2]⟩) id) (hh'.imp (fun h=>⟨h.1,by rw[h.2]⟩) id)
       rw[h7,if_neg (by omega)] at this
       simp only[Option.map_some,k8,←Nat.add_mul] at this
       simp only[execOp,hop,hv,Sem.run_bind,this,Result.andThen_ok,Sem.run_pure]
      ·have:o' ()+(l ()).toNat+(cap - (l ()).toNat)=o' ()+cap:=by omega
       rw[this];exact hsz
   ·exact hs.elim
  ·rename_i n b z ht hx
   obtain⟨inf,el,j,zv,h1,h2,h3,h4,h5,h6,h7,h8,h9,h10,h11,h12⟩:=qM ht
   rw[hx] at hr
   obtain⟨aa,hv⟩:=uL hr
   split at hs
   ·rename_i l hh hl hhh
    obtain⟨hok,hK⟩:=hs
    have hl':=jJ he hl;have hh':=jJ he hhh
    have:=hok.lo;have:=hok.mid;have:=hok.hi
    refine fin _ _ ?_ hK (.nil aa)
    have:=dU (w:=w) (ρ:=a.eval) (a:=aa) h4 h5 (Nat.le_refl 0) hok.lo hok.mid hok.hi (hl'.imp (fun h=>⟨h.1,by rw[h.2]⟩) id) (hh'.imp (fun h=>⟨h.1,by rw[h.2];rfl⟩) id)
    have e1:(l ()).toNat=0:=by omega
    have e2:(hh ()).toNat=0:=by omega
    rw[e1,e2,if_pos rfl] at this
    simp only[execOp,hop,hv,Sem.run_bind,this,Result.andThen_ok,Sem.run_pure]
   ·exact hs.elim
  ·exact hs.elim
 ·rename_i x hop
  have hr:=he x
  split at hs
  ·rename_i n o' hx;rw[hx] at hr;obtain⟨b,hβ,hv⟩:=kP hr;exact fin _ _ (by simp [execOp,hop,hv]) hs (.ptr hβ)
  ·rename_i n s i o' hx;rw[hx] at hr;obtain⟨b,hβ,hv⟩:=j2 hr;exact fin _ _ (by simp [execOp,hop,hv]) hs (.aptr hβ)
  ·rename_i c o' hx;rw[hx] at hr;obtain⟨b,oo,vals,hS,hv,hf,hc,hrr⟩:=fI hr;exact fin _ _ (by simp [execOp,hop,hv]) hs (.dptr vals hS hf hc hrr)
  ·exact hs.elim
 ·rename_i f first caps hop
  split at hs
  ·rename_i hfe
   have hf0:first=#[]:=by simpa using hfe
   have hc:=l6 he caps.toList
   refine fin _ (.func (.func f) #[] (caps.toList.map a.eval).toArray) ?_ hs (.fn hc.1 hc.2)
   have:caps.map a.eval=(caps.toList.map a.eval).toArray:=Array.ext' (by simp)
   simp [execOp,hop,Instr.makeFunc,hf0,←this]
  ·exact hs.elim
 ·rename_i c hop
  split at hs
  ·rename_i hcl
   split at hs
   ·rename_i x t hx ht
    have hr:=he x
    have ha:c.args=#[x]:=by rw[←Array.toArray_toList (xs:=c.args),hx]
    have hta:c.argTypes=#[t]:=by rw[←Array.toArray_toList (xs:=c.argTypes),ht]
    unfold lenK at hs
    split at hs
    ·rename_i n b z hty
     obtain⟨inf,el,j,zv,h1,h2,h3,h4,_⟩:=qM hty
     split at hs
     ·rename_i els hxe
      rw[hxe] at hr
      have:=bM hr
      obtain⟨aa,cap,hv,_⟩:∃ aa cap,a.eval x=.slice aa (els ()).length cap∧True:=by
       rcases gR this with ⟨e0,aa,cap,hv⟩ | ⟨bb,oo,cap,s,vals,_,_,_,_,_,_,_,hv⟩
       ·exact⟨aa,cap,by rw[hv,e0];rfl,trivial⟩
       ·exact⟨_,cap,hv,trivial⟩
      exact fin _ (.int .i64 ((els ()).length:Nat)) (by simp [execOp,hop,resolve,hcl,invoke,Go.builtin,ha,hta,hv,Builtin.len_,run_underlying h4,goInt]) hs (cO .i64 (fun _=>(((els ()).length:Nat):Int)))
     ·rename_i m s o' l hxe
      rw[hxe] at hr
      obtain⟨aa,cap,hv⟩:∃ aa cap,a.eval x=.slice aa (l ()) cap:=by
       rcases gQ hr with ⟨_,_,hl0,aa,hv⟩ | ⟨bb,cap,vs,T,hβ,hlc,hb,hsz,hv⟩
       ·exact⟨aa,0,by rw[hv,hl0]⟩
       ·exact⟨_,cap,hv⟩
      exact fin _ (.int .i64 (l ():Nat)) (by simp [execOp,hop,resolve,hcl,invoke,Go.builtin,ha,hta,hv,Builtin.len_,run_underlying h4,goInt]) hs (cO .i64 (fun _=>((l ():Nat):Int)))
     ·rename_i hxe
      rw[hxe] at hr
      obtain⟨aa,hv⟩:=uL hr
      exact fin _ (.int .i64 0) (by simp [execOp,hop,resolve,hcl,invoke,Go.builtin,ha,hta,hv,Builtin.len_,run_underlying h4,goInt]) hs (cO .i64 (fun _=>0))
     ·exact hs.elim
    ·exact hs.elim
   ·exact hs.elim
  ·rename_i hcl
   split at hs
   ·rename_i x y hx
    have ha:c.args=#[x,y]:=by rw[←Array.toArray_toList (xs:=c.args),hx]
    split at hs
    ·rename_i k b hxe hye
     have hr:=he x;have hr2:=he y
     rw[hxe] at hr;rw[hye] at hr2
     refine fin _ (.int .i64 (imax (k ()) (b ()))) ?_ hs (cO .i64 (fun _=>imax (k ()) (b ())))
     simp [execOp,hop,resolve,hcl,invoke,Go.builtin,ha,vE hr,vE hr2,Builtin.max_,Builtin.max2,imax]
    ·exact hs.elim
   ·exact hs.elim
  ·rename_i f hcl
   split at hs
   ·rename_i g caps hf
    exact n7 hop hcl h hf hs.h hk
   ·exact hs.elim
  ·exact hs.elim
 ·exact hs.elim
end
end Go.Proofs.YtgcpehdkdnkgeaaGreat
