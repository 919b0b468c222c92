/- A part of the proof: SxP, BrE, SzB. -/
import Derived.Test.YtfainocfaddbdaaGreatX37
import Derived.Test.YtfainocfaddbdaaGreatX36
import Derived.Test.YtfainocfaddbdaaGreatX25
set_option linter.all false
namespace Go.Proofs.YtfainocfaddbdaaGreat
open Go
set_option maxRecDepth 100000
set_option maxHeartbeats 4000000
theorem zH1 {nb:List Nat}{e:Nat}(he:e<nb.length):nb.set e (nb.getD e 0)=nb:=by
 refine List.ext_getElem? fun i=>?_
 rw[List.getElem?_set]
 split
 ·rename_i h
  subst h
  obtain⟨x,hx⟩:=zU he
  rw[List.getD_eq_getElem?_getD,hx]
  simp [he]
 ·rfl
theorem zP5 (X:Nat→Rat){nb:List Nat}{l:List Rat}{e:Nat}{k:Rat}(hl:l.length=nb.length+1)(he:e<nb.length):dot X nb (l.set e k)=dot X nb l - l.getD e 0 * X (nb.getD e 0)+k * X (nb.getD e 0):=by
 have h:=mC X (nb.getD e 0) k nb l e hl he
 rw[zH1 he] at h
 exact h
theorem zEI (X:Nat→Rat):∀ {nb:List Nat} {l:List Rat} {c:Rat},l.length=nb.length+1→dot X nb (l.set nb.length c)=dot X nb l - l.getD nb.length 0+c
 | [],[x],c,_=>by show c=x - x+c;grind
 | [],[],c,h=>by simp at h
 | [],x::y::l,c,h=>by simp at h
 | v::vs,[],c,h=>by simp at h
 | v::vs,x::l,c,h=>by
  have:=zEI X (nb:=vs) (l:=l) (c:=c) (by simpa using h)
  show x * X v+dot X vs (l.set vs.length c)=x * X v+dot X vs l - l.getD vs.length 0+c
  rw[this]
  grind
theorem zFA {v i:Nat}(h:i<v):(List.range v).getD i 0=i:=by
 rw[List.getD_eq_getElem?_getD,List.getElem?_range h];rfl
theorem zDU {v:Nat}{X:Nat→Rat}:∀ {ts:List (Int × Rat)} {l:List Rat},Cn ts→(∀ t,t∈ts→0≤t.1∧t.1<(v:Int))→(∀ t,t∈ts→l.getD t.1.toNat 0=0)→l.length=v+1 →
  dot X (List.range v) (m8 ts l)=dot X (List.range v) l+evX (fun i=>X i.toNat) ts∧(m8 ts l).getD v 0=l.getD v 0
 | [],l,_,_,_,_=>by
  refine⟨?_,rfl⟩
  show dot X (List.range v) l=dot X (List.range v) l+0
  grind
 | t::r,l,hc,hv,h0,hl=>by
  have ht:=hv t List.mem_cons_self
  have htn:t.1.toNat<v:=by omega
  obtain⟨h1,h2⟩:=zDU (X:=X) (ts:=r) (l:=l.set t.1.toNat t.2) hc.tail (fun u hu=>hv u (List.mem_cons_of_mem _ hu)) (fun u hu=>by
   have h3:=hc.lt u hu
   rw[List.getD_eq_getElem?_getD,List.getElem?_set_ne (by omega),←List.getD_eq_getElem?_getD]
   exact h0 u (List.mem_cons_of_mem _ hu)) (by rw[List.length_set];exact hl)
  rw[m8]
  refine⟨?_,?_⟩
  ·rw[h1,zP5 X (by rw[List.length_range];exact hl) (by rw[List.length_range];exact htn),h0 t List.mem_cons_self,zFA htn]
   show _=dot X (List.range v) l+(t.2 * X t.1.toNat+evX (fun i=>X i.toNat) r)
   grind
  ·rw[h2,List.getD_eq_getElem?_getD,List.getElem?_set_ne (by omega),←List.getD_eq_getElem?_getD]
theorem zDJ {n i:Nat}:(List.replicate n (0:Rat)).getD i 0=0:=by
 rw[List.getD_eq_getElem?_getD,List.getElem?_replicate];split <;> rfl
theorem zC1 {v:Nat}{f:F}{X:Nat→Rat}(hw:f.wf (v:Int)):atX v X (lnS v f)=f.at (fun i=>X i.toNat):=by
 obtain⟨h1,h2⟩:=zDU (v:=v) (X:=X) (ts:=f.ts) (l:=List.replicate (v+1) 0) hw.cn hw.v (fun t _=>zDJ) (by simp)
 unfold atX lnS
 have hlen:(m8 f.ts (List.replicate (v+1) 0)).length=v+1:=by rw[tX,List.length_replicate]
 have h3:=zEI X (nb:=List.range v) (l:=m8 f.ts (List.replicate (v+1) 0)) (c:=f.c) (by rw[List.length_range];exact hlen)
 rw[List.length_range] at h3
 rw[h3,h1,h2,zDJ,sR]
 unfold F.at
 grind
theorem lY {v:Nat}{f:F}{X:Int→Rat}(hw:f.wf (v:Int)):atX v (fun j=>X (j:Int)) (lnS v f)=f.at X:=by
 rw[zC1 hw]
 refine zES fun t ht=>?_
 have:=hw.v t ht
 show X ((t.1.toNat:Nat):Int)=X t.1
 rw[show ((t.1.toNat:Nat):Int)=t.1 by omega]
theorem nK {v:Nat}{f:F}{l:List Rat}(hw:f.wf (v:Int)):atX v (toX l) (lnS v f)=f.at (xr l):=zC1 hw
def Pts (fs:List F) (X:Int→Rat):Prop:=∀ f,f∈fs→0≤f.at X
structure Sem (fs:List F) (ob:F) (st:Nat) (z:Rat):Prop where
 opt:st=1→(∃ X,Pts fs X∧ob.at X=z)∧∀ X,Pts fs X→z≤ob.at X
 inf:st=2→z=0∧∀ X,¬ Pts fs X
 unb:st=3→z=0∧∀ m:Rat,∃ X,Pts fs X∧ob.at X<m
 one:st=1∨st=2∨st=3
theorem rI {k a b:Rat}(hk:0<k)(h:k * a≤k * b):a≤b:=by
 rcases Rat.le_total (a:=a) (b:=b) with h1 | h1
 ·exact h1
 ·by_cases h2:b<a
  ·have:=Rat.mul_lt_mul_of_pos_left h2 hk
   grind
  ·grind
theorem Sem.unique {fs gs:List F}{ob ob':F}{a b:Nat}{y z k:Rat}(h:Sem fs ob a y)(g:Sem gs ob' b z)(hX:∀ X,Pts fs X↔Pts gs X)(hk:0<k)(ho:∀ X,ob'.at X=k * ob.at X):a=b∧z=k * y:=by
 rcases h.one with ha | ha | ha
 ·obtain⟨⟨X,hx1,hx2⟩,hx3⟩:=h.opt ha
  rcases g.one with hb | hb | hb
  ·obtain⟨⟨Y,hy1,hy2⟩,hy3⟩:=g.opt hb
   refine⟨by omega,Rat.le_antisymm ?_ ?_⟩
   ·rw[←hx2,←ho];exact hy3 X ((hX X).1 hx1)
   ·rw[←hy2,ho];exact Rat.mul_le_mul_of_nonneg_left (hx3 Y ((hX Y).2 hy1)) (Rat.le_of_lt hk)
  ·exact absurd ((hX X).1 hx1) ((g.inf hb).2 X)
  ·obtain⟨Y,hy1,hy2⟩:=(g.unb hb).2 (k * y)
   have h1:=hx3 Y ((hX Y).2 hy1)
   have h2:=Rat.mul_le_mul_of_nonneg_left h1 (Rat.le_of_lt hk)
   rw[ho] at hy2
   exact absurd hy2 (by grind)
 ·obtain⟨hy,hn⟩:=h.inf ha
  rcases g.one with hb | hb | hb
  ·obtain⟨⟨Y,hy1,hy2⟩,hy3⟩:=g.opt hb
   exact absurd ((hX Y).2 hy1) (hn Y)
  ·exact⟨by omega,by rw[(g.inf hb).1,hy,Rat.mul_zero]⟩
  ·obtain⟨Y,hy1,hy2⟩:=(g.unb hb).2 0
   exact absurd ((hX Y).2 hy1) (hn Y)
 ·obtain⟨hy,hu⟩:=h.unb ha
  rcases g.one with hb | hb | hb
  ·obtain⟨⟨Y,hy1,hy2⟩,hy3⟩:=g.opt hb
   obtain⟨X,hx1,hx2⟩:=hu (ob.at Y)
   have h1:=hy3 X ((hX X).1 hx1)
   rw[←hy2,ho,ho] at h1
   have h2:=rI hk h1
   exact absurd hx2 (by grind)
  ·obtain⟨X,hx1,hx2⟩:=hu 0
   exact absurd ((hX X).1 hx1) ((g.inf hb).2 X)
  ·exact⟨by omega,by rw[(g.unb hb).1,hy,Rat.mul_zero]⟩
theorem zGF:∀ {l:List Rat} {f:Nat→Rat},(∀ c,c∈l→0≤c)→(∀ k,k<l.length→0≤f k)→0≤gA l f
 | [],f,_,_=>Rat.le_refl
 | q::qs,f,h,g=>by
  have h1:=zGF (l:=qs) (f:=fun k=>f (k+1)) (fun c hc=>h c (List.mem_cons_of_mem _ hc)) (fun k hk=>g (k+1) (by simp only[List.length_cons];omega))
  have h2:=Rat.mul_nonneg (h q List.mem_cons_self) (g 0 (by simp))
  rw[gA]
  grind
theorem zJ1 {v:Nat}{fs:List F}{k:Nat}{f:F}(h:fs[k]?=some f):(fs.map (lnS v)).getD k []=lnS v f:=by
 rw[List.getD_eq_getElem?_getD,List.getElem?_map,h];rfl
theorem zGE {v:Nat}{fs:List F}{X:Int→Rat}{du:List Rat}(hw:∀ f,f∈fs→f.wf (v:Int))(hd:du.length=(fs.map (lnS v)).length)(hn:∀ c,c∈du→0≤c)(hX:Pts fs X):0≤gA du (fun k=>atX v (fun j=>X (j:Int)) ((fs.map (lnS v)).getD k [])) :=
 zGF hn fun k hk=>by
  rw[List.length_map] at hd
  obtain⟨f,hf⟩:=zU (show k<fs.length by omega)
  have hm:=List.mem_of_getElem? hf
  rw[zJ1 hf,lY (hw f hm)]
  exact hX f hm
theorem zHL {X Y:Nat→Rat}{t:Rat}:∀ {nb:List Nat} {l:List Rat},dot (fun j=>X j+t * Y j) nb l=dot X nb l+t * (dot Y nb l - dot (fun _=>0) nb l)
 | [],l=>by simp only[dot];grind
 | v::vs,l=>by
  simp only[dot,zHL (X:=X) (Y:=Y) (t:=t) (nb:=vs) (l:=l.tail)]
  grind
theorem SolOk.sem {v:Nat}{fs:List F}{ob:F}{s:SolR}(hw:∀ f,f∈fs→f.wf (v:Int))(ho:ob.wf (v:Int))(h:SolOk v (fs.map (lnS v)) (lnS v ob) s):Sem fs ob s.st s.val:=by
 refine⟨fun e=>?_,fun e=>?_,fun e=>?_,h.one⟩
 ·obtain⟨h1,h2,h3,h4,h5,h6,_⟩:=h.opt e
  refine⟨⟨xr s.pt,fun f hf=>?_,?_⟩,fun X hX=>?_⟩
  ·rw[←nK (hw f hf)];exact h2 _ (List.mem_map_of_mem hf)
  ·rw[←nK ho];exact h3
  ·rw[←lY ho,h6]
   have:=zGE hw h4 h5 hX
   grind
 ·obtain⟨_,_,h3,h4,h5,k,hk,h6⟩:=h.inf e
  refine⟨h3,fun X hX=>?_⟩
  have h7:=zGE hw h4 h5 hX
  have h8:=h6 (fun j=>X (j:Int))
  grind
 ·obtain⟨_,h2,_,_,h5,h6,h7⟩:=h.unb e
  refine⟨h2,fun m=>?_⟩
  have hl:∀ (t:Rat) (f:F),f.wf (v:Int)→f.at (fun i=>toX s.pt i.toNat+t * toX s.ry i.toNat)=atX v (toX s.pt) (lnS v f)+t * (atX v (toX s.ry) (lnS v f) - atX v (fun _=>0) (lnS v f)):=fun t f hf=>by
   rw[←zC1 (X:=fun j=>toX s.pt j+t * toX s.ry j) hf]
   exact zHL
  generalize hd:atX v (toX s.ry) (lnS v ob) - atX v (fun _=>0) (lnS v ob)=d at h7
  have key:∃ t:Rat,0≤t∧atX v (toX s.pt) (lnS v ob)+t * d<m:=by
   generalize atX v (toX s.pt) (lnS v ob)=a
   by_cases h8:a<m
   ·exact⟨0,Rat.le_refl,by grind⟩
   ·have hd0:d≠0:=fun e=>by rw[e] at h7;exact absurd h7 (by decide)
    have hdn:0 < -d:=by grind
    refine⟨(a - m+1) * (-d)⁻¹,Rat.mul_nonneg (by grind) (Rat.le_of_lt (Rat.inv_pos.2 hdn)),?_⟩
    have h9:(-d)⁻¹ * (-d)=1:=Rat.inv_mul_cancel _ (by grind)
    have:(a - m+1) * (-d)⁻¹ * d=-(a - m+1):=by
     have:(a - m+1) * (-d)⁻¹ * d=-((a - m+1) * ((-d)⁻¹ * (-d))):=by grind
     rw[this,h9];grind
    rw[this]
    grind
  obtain⟨t,ht,ht2⟩:=key
  refine⟨fun i=>toX s.pt i.toNat+t * toX s.ry i.toNat,fun f hf=>?_,?_⟩
  ·rw[hl t f (hw f hf)]
   have h8:=h5 _ (List.mem_map_of_mem hf)
   have h9:=Rat.mul_nonneg ht (h6 _ (List.mem_map_of_mem hf))
   grind
  ·rw[hl t ob ho,hd];exact ht2
theorem zDT {k:Nat}:∀ {ts:List (Int × Rat)} {l:List Rat},(∀ t,t∈ts→Fits k t.2)→lfit k l→lfit k (m8 ts l)
 | [],l,_,h=>h
 | t::r,l,ht,h=>zDT (ts:=r) (fun u hu=>ht u (List.mem_cons_of_mem _ hu)) (lfit.set h (ht t List.mem_cons_self) _)
theorem zGZ {v k n:Nat}{f:F}(hk:1≤k)(h:f.fl k n):lfit k (lnS v f):=lfit.set (zDT h.t (cJ hk)) h.c _
theorem zHY {v k n:Nat}{fs:List F}{ob:F}(hk:1≤k)(h:∀ f,f∈fs→f.fl k n)(ho:ob.fl k n):(yT v (fs.map (lnS v)) (lnS v ob)).fit k:=⟨fun l hl=>by
 obtain⟨f,hf,rfl⟩:=List.mem_map.1 hl
 exact zGZ hk (h f hf),zGZ hk ho⟩
structure Slv (v:Nat) (fs:List F) (ob:F) (K:Nat) (s:SolR):Prop where
 some:rS v fs.length (yT v (fs.map (lnS v)) (lnS v ob))=some s
 ok:SolOk v (fs.map (lnS v)) (lnS v ob) s
 pv:s.pv≤65536
 fit:SolFit K s
 piv:∀ E,Pvs (yT v (fs.map (lnS v)) (lnS v ob)) E→E.fit K
 walk:Walk v fs.length K (yT v (fs.map (lnS v)) (lnS v ob)) (rel v (yT v (fs.map (lnS v)) (lnS v ob)).nb 0 (yT v (fs.map (lnS v)) (lnS v ob),0)).1 (rel v (yT v (fs.map (lnS v)) (lnS v ob)).nb 0 (yT v (fs.map (lnS v)) (lnS v ob),0)).2
theorem Walk.mono {v r K L:Nat}{D0 D1:Dic}{p:Nat}(h:Walk v r K D0 D1 p)(hK:K≤L):Walk v r L D0 D1 p :=
 ⟨h.wf,h.bl,h.nl,h.pp,h.ys,h.fit.mono hK,fun a E hE=>(h.aux a E hE).mono hK,fun l hl=>⟨(h.some l hl).1,(h.some l hl).2.mono hK⟩,h.ok,h.q,fun hn=>by
  obtain⟨a,b,c,d,e⟩:=h.none hn
  exact⟨a,b,c,d,fun F hF=>(e F hF).mono hK⟩⟩
theorem zO6 {v k n K:Nat}{fs:List F}{ob:F}(hv:v≤4)(hr:fs.length≤9)(hk:1≤k)(h:∀ f,f∈fs→f.fl k n)(ho:ob.fl k n)(hK:1953125 * k≤K):∃ s,Slv v fs ob K s:=by
 have hl:∀ l,l∈fs.map (lnS v)→l.length=v+1:=fun l hl=>by
  obtain⟨f,hf,rfl⟩:=List.mem_map.1 hl
  exact dP _ _
 have h2:2 ^ (fs.length+1)≤1024:=Nat.pow_le_pow_right (n:=2) (by decide) (show fs.length+1≤10 by omega)
 have h3:2 ^ fs.length≤512:=Nat.pow_le_pow_right (n:=2) (by decide) (show fs.length≤9 by omega)
 have hp:v+1+2 ^ ((fs.map (lnS v)).length+1)+2 ^ (fs.map (lnS v)).length≤65537:=by rw[List.length_map];omega
 have h5:5 ^ v≤625:=Nat.pow_le_pow_right (n:=5) (by decide) hv
 have h6:5 ^ (v+1)≤3125:=Nat.pow_le_pow_right (n:=5) (by decide) (show v+1≤5 by omega)
 have h7:5 ^ v * k≤625 * k:=Nat.mul_le_mul_right k h5
 have h8:5 ^ (v+1) * (5 ^ v * k)≤3125 * (625 * k):=Nat.mul_le_mul h6 h7
 have hf:=zHY (v:=v) hk h ho
 obtain⟨s,hs,h9,h10⟩:=zJG hl (dP _ _) hp
 obtain⟨w1,w2⟩:=zL6 (K:=K) hl (dP _ _) hp hk hf (by omega) (zIX hl (dP _ _) hk hf (by omega))
 rw[List.length_map] at hs w2
 exact⟨s,hs,h9,h10,zH0 (by omega) w2 hs,w1,w2⟩
def vE:List F→List Rat→F→F
 | f::fs,d::ds,acc=>vE fs ds (acc.add (f.scale d))
 | _,_,acc=>acc
theorem F.wf.zero {n:Int}:F.zero.wf n:=⟨Cn.nil,fun t ht=>absurd ht (by simp [F.zero])⟩
theorem zC0 {n:Int}:∀ {fs:List F} {ds:List Rat} {acc:F},(∀ f,f∈fs→f.wf n)→acc.wf n→(vE fs ds acc).wf n
 | [],_,_,_,h=>by unfold vE;exact h
 | f::fs,[],_,_,h=>by unfold vE;exact h
 | f::fs,d::ds,acc,hw,h=>by
  unfold vE
  exact zC0 (fun g hg=>hw g (List.mem_cons_of_mem _ hg)) (h.add (F.wf.scale (hw f List.mem_cons_self)))
theorem zGA {v:Nat}{X:Int→Rat}:∀ {fs:List F} {ds:List Rat} {acc:F},(∀ f,f∈fs→f.wf (v:Int))→ds.length=fs.length→(vE fs ds acc).at X=acc.at X+gA ds (fun k=>atX v (fun j=>X (j:Int)) ((fs.map (lnS v)).getD k []))
 | [],[],acc,_,_=>by unfold vE gA;grind
 | f::fs,[],acc,_,h=>by simp at h
 | [],d::ds,acc,_,h=>by simp at h
 | f::fs,d::ds,acc,hw,h=>by
  unfold vE
  rw[zGA (fun g hg=>hw g (List.mem_cons_of_mem _ hg)) (by simpa using h),zLM,cS,gA]
  show _=acc.at X+(d * atX v (fun j=>X (j:Int)) (lnS v f)+gA ds (fun k=>atX v (fun j=>X (j:Int)) ((fs.map (lnS v)).getD k [])))
  rw[lY (hw f List.mem_cons_self)]
  grind
theorem zHD (v:Int):∀ ts:List (Int × Rat),evX (fun i=>if i=v then 1 else 0) ts=co ts v
 | []=>rfl
 | t::r=>by
  unfold evX co
  rw[zHD v r]
  split <;> grind
theorem eZ:∀ ts:List (Int × Rat),evX (fun _=>0) ts=0
 | []=>rfl
 | t::r=>by
  unfold evX
  rw[eZ r]
  grind
theorem zEL {f:F}{c:Rat}(hc:Cn f.ts)(h:∀ X,f.at X=c):f.ts=[]∧f.c=c:=by
 have h0:f.c=c:=by
  have:=h fun _=>0
  unfold F.at at this
  rw[eZ] at this
  grind
 refine⟨Cn.nil_of hc fun v=>?_,h0⟩
 have:=h fun i=>if i=v then 1 else 0
 unfold F.at at this
 rw[zHD] at this
 grind
section
variable {v:Nat} {fs:List F} {ob:F} {s:SolR}
theorem SolOk.sub (hw:∀ f,f∈fs→f.wf (v:Int))(ho:ob.wf (v:Int))(h:SolOk v (fs.map (lnS v)) (lnS v ob) s)(e:s.st=1):(ob.sub (vE fs s.du F.zero)).ts=[]∧(ob.sub (vE fs s.du F.zero)).c=s.val:=by
 obtain⟨_,_,_,h4,_,h6,_⟩:=h.opt e
 rw[List.length_map] at h4
 refine zEL (ho.sub (zC0 hw F.wf.zero)).cn fun X=>?_
 rw[zQD,zGA hw h4,←lY ho,h6,zB9]
 grind
theorem SolOk.neg (hw:∀ f,f∈fs→f.wf (v:Int))(h:SolOk v (fs.map (lnS v)) (lnS v ob) s)(e:s.st=2):(vE fs s.du F.zero).ts=[]∧(vE fs s.du F.zero).c<0:=by
 obtain⟨_,_,_,h4,_,k,hk,h6⟩:=h.inf e
 rw[List.length_map] at h4
 have:=zEL (c:=-k) (zC0 hw F.wf.zero).cn fun X=>by
  rw[zGA hw h4,zB9]
  have:=h6 fun j=>X (j:Int)
  grind
 exact⟨this.1,by rw[this.2];grind⟩
def dirF (f:F):F:=⟨f.ts,0⟩
theorem zLH {f:F}{x:List Rat}(hf:f.wf (v:Int)):(dirF f).at (xr x)=atX v (toX x) (lnS v f) - atX v (fun _=>0) (lnS v f):=by
 rw[nK hf,zC1 hf]
 unfold F.at dirF
 dsimp only
 rw[eZ]
 grind
end
theorem zHN {m:Nat}:∀ {fs:List F} {ds:List Rat} {acc:F} {k n:Nat},(∀ f,f∈fs→f.fl 2 8)→lfit m ds→acc.fl k n→(vE fs ds acc).fl (k+(m+6) * fs.length) (n+8 * fs.length)
 | [],_,acc,k,n,_,_,h=>by unfold vE;exact h.mono (by omega) (by omega)
 | f::fs,[],acc,k,n,_,_,h=>by unfold vE;exact h.mono (by omega) (by omega)
 | f::fs,d::ds,acc,k,n,hf,hd,h=>by
  unfold vE
  refine (zHN (fun g hg=>hf g (List.mem_cons_of_mem _ hg)) (fun c hc=>hd c (List.mem_cons_of_mem _ hc)) (h.add ((hf f List.mem_cons_self).scale (hd d List.mem_cons_self)))).mono ?_ ?_
  ·rw[List.length_cons,Nat.mul_succ];omega
  ·rw[List.length_cons];omega
theorem zLK {v:Nat}{fs:List F}{ds:List Rat}(hf:∀ f,f∈fs→f.fl 2 8∧f.wf (v:Int))(hl:fs.length≤14)(hn:ds.length=fs.length)(hd:lfit (2^22) ds):(vE fs ds F.zero).fl (2^26) 112:=by
 have h:F.zero.fl 1 0:=⟨fun t ht=>absurd ht (by simp [F.zero]),xQ (by decide),Nat.le_refl _⟩
 refine (zHN (fun f h=>(hf f h).1) hd h).mono ?_ ?_
 ·have:(2^22+6) * fs.length≤(2^22+6) * 14:=Nat.mul_le_mul_left _ hl
  omega
 ·omega
theorem zKJ {H:Type}(d:DataW H):1≤Rows.uptoBulk d:=by
 cases d with
 | lit l=>cases l <;> simp [Rows.uptoBulk]
 | _=>simp [Rows.uptoBulk]
theorem qH {H:Type}{d:DataW H}:∀ {l:List (DataW H)},d∈l→Rows.uptoBulk d≤Rows.uptoBulkAll l
 | [],h=>absurd h (by simp)
 | x::r,h=>by
  simp only[Rows.uptoBulkAll]
  rcases List.mem_cons.1 h with e | e
  ·subst e;omega
  ·have:=qH e;omega
theorem zEO {H:Type}:∀ (l:List (DataW H)),l.length≤Rows.uptoBulkAll l
 | []=>Nat.zero_le _
 | x::r=>by have:=zKJ x;have:=zEO r;simp only[Rows.uptoBulkAll,List.length_cons];omega
structure ElB (w:World) (t:TypeId) (k:Nat) {α:Type} (G:α→Nat→Prop) (p:α→List PV):Prop where
 sz:Tryz.prog.cellsOf t=k
 up:∀ a n m,n≤m→G a n→G a m
 rd:∀ {H:Type} {enc:TypeId × Value→H} {sp:Nat→Bool} {n:Nat} {cs:List Value} {x:DataW H × List MemPlace},DataW.trod enc Tryz.prog w 0 sp true n t cs=some x→∃ a,G a (Rows.uptoBulk x.1)∧Cs w cs (xG (p a))
theorem ElB.map {w t k}{α β:Type}{G:α→Nat→Prop}{p:α→List PV}{G':β→Nat→Prop}{p':β→List PV}(h:ElB w t k G p)(f:α→β)(hp:∀ a,xG (p' (f a))=xG (p a))(hG:∀ a n,G a n→G' (f a) n)(hu:∀ a n m,n≤m→G' a n→G' a m):ElB w t k G' p' :=
 ⟨h.sz,hu,fun hx=>by
  obtain⟨a,h1,h2⟩:=h.rd hx
  exact⟨f a,hG a _ h1,by rw[hp a];exact h2⟩⟩
theorem ElR.bulk {w t k}{α:Type}{G:α→Prop}{p:α→List PV}(h:ElR w t k G p):ElB w t k (fun a _=>G a) p :=
 ⟨h.sz,fun _ _ _ _ h=>h,fun hx=>h.rd hx⟩
theorem lQ {w t e k}{α:Type}{G:α→Nat→Prop}{p:α→List PV}(ht:Tryz.prog.underlying t=some (.slice e))(hs:Tryz.prog.cellsOf t=1)(hk:0<k)(he:ElB w e k G p) :
  ElB w t 1 (fun (l:List α) n=>(∀ a,a∈l→G a n)∧l.length≤n) (fun l=>[.sl (fun _=>enc p l)]) :=
 ⟨hs,fun l n m h g=>⟨fun a ha=>he.up a n m h (g.1 a ha),Nat.le_trans g.2 h⟩,fun {H enc' sp n cs x} hx=>by
  rcases Go.Deep.open_slice ht hx with ⟨rfl,_⟩ | ⟨a,len,cap,m,n',D,Pl,rfl,hb,hl,hm,hmm,hxe,hi⟩
  ·exact⟨[],⟨fun _ h=>absurd h (by simp),Nat.zero_le _⟩,⟨.sl0 _ _,rfl⟩,trivial⟩
  have hbulk:Rows.uptoBulkAll ((List.range len).map D)≤Rows.uptoBulk x.1:=by rw[hxe];simp only[Rows.uptoBulk];omega
  have hbl:len≤Rows.uptoBulk x.1:=by
   have:=zEO ((List.range len).map D)
   rw[List.length_map,List.length_range] at this
   omega
  have hbp:∀ i,i<len→Rows.uptoBulk (D i)≤Rows.uptoBulk x.1:=fun i hi=>Nat.le_trans (qH (List.mem_map_of_mem (List.mem_range.2 hi))) hbulk
  have hlm:len≤m:=by rw[hmm];split <;> omega
  rcases Nat.eq_zero_or_pos len with h0 | h0
  ·subst h0
   exact⟨[],⟨fun _ h=>absurd h (by simp),Nat.zero_le _⟩,⟨.sl0 _ _,rfl⟩,trivial⟩
  rw[he.sz] at hi
  have key:∀ i,i<len→∃ y:List Value × α,w.cells? 0 (a.add (i * k)) k=some y.1∧G y.2 (Rows.uptoBulk x.1)∧Cs w y.1 (xG (p y.2)):=fun i hil=>by
   obtain⟨cs',h1,h2⟩:=hi i (by omega)
   obtain⟨y,g1,g2⟩:=he.rd h2
   exact⟨(cs',y),h1,he.up _ _ _ (hbp i hil) g1,g2⟩
  haveI:Inhabited (List Value × α):=⟨Classical.choose (key 0 h0)⟩
  obtain⟨Y,hY⟩:=Go.Deep.choose_lt key
  have hcell:∀ i j,i<len→j<k→w.cell? (a.add (i * k+j))=some ((Y i).1.getD j undef):=fun i j hi' hj=>by
   obtain⟨h1,_,_⟩:=hY i hi'
   obtain⟨_,h2,h3⟩:=World.cells?_some h1
   have:=h3 j hj
   rw[Go.Deep.add_add] at this
   rw[this,List.getD_eq_getElem?_getD]
   have:j<(Y i).1.length:=by omega
   simp [this]
  obtain⟨b,o,sp'⟩:=a
  have hsp:sp'=none:=by
   have:=hcell 0 0 h0 hk
   unfold World.cell? at this
   split at this
   ·cases sp' with
    | none=>rfl
    | some s=>simp [Addr.add] at this
   ·cases this
  subst hsp
  have hS:b<w.heap.size:=World.cells?_block (a:=⟨b,o,none⟩) (by
   have:=(hY 0 h0).1
   rw[Nat.zero_mul] at this
   exact this) hk
  have hlen:((List.range len).map fun i=>(Y i).2).length=len:=by simp
  have hel:∀ i,i<len→(enc p ((List.range len).map fun i=>(Y i).2)).getD i []=xG (p (Y i).2):=fun i hi'=>by
   simp [Go.Proofs.YtfainocfaddbdaaGreat.enc,hi']
  refine⟨(List.range len).map fun i=>(Y i).2,⟨fun z hz=>?_,by rw[hlen];exact hbl⟩,⟨?_,rfl⟩,trivial⟩
  ·obtain⟨i,hi',rfl⟩:=List.mem_map.1 hz
   exact (hY i (List.mem_range.1 hi')).2.1
  have hel2:(enc p ((List.range len).map fun i=>(Y i).2)).length=len:=by rw[zM,hlen]
  have hk':∀ i,i<len→(xG (p (Y i).2)).length=k:=fun i hi'=>by
   obtain⟨h1,_,h3⟩:=hY i hi'
   obtain⟨_,h2,_⟩:=World.cells?_some h1
   rw[←h3.len]
   exact h2
  have:=RepD.sl (w:=w) (S:=InW w) (b:=b) (o:=o) (cap:=cap) (s:=k) (els:=enc p ((List.range len).map fun i=>(Y i).2)) (fun i j=>(Y i).1.getD j undef)
   (fun h=>by rw[h] at hel2;simp at hel2;omega) (by rw[hel2];exact hl) (fun _ _ _ _=>hS)
   (fun e' he'=>by
    obtain⟨z,hz,rfl⟩:=List.mem_map.1 he'
    obtain⟨i,hi',rfl⟩:=List.mem_map.1 hz
    exact hk' i (List.mem_range.1 hi'))
   (fun i j hi' hj=>by
    rw[hel2] at hi'
    have:=hcell i j hi' hj
    rw[zQG] at this
    rw[Nat.add_assoc]
    exact this)
   (fun i j hi' hj=>by
    rw[hel2] at hi'
    exact ((hY i hi').2.2.get j (by rw[hk' i hi'];exact hj)).2)
   (fun i j hi' hj=>by
    rw[hel2] at hi'
    rw[hel i hi']
    exact ((hY i hi').2.2.get j (by rw[hk' i hi'];exact hj)).1)
  rw[hel2] at this
  exact this⟩
theorem ElB.cut {w t k}{α:Type}{G:α→Nat→Prop}{p:α→List PV}(h:ElB w t k G p){H:Type}{enc:TypeId × Value→H}{sp:Nat→Bool}{n o:Nat}{cs:List Value}{x:DataW H × List MemPlace}
  (hx:DataW.trod enc Tryz.prog w 0 sp true n t ((cs.drop o).take (Tryz.prog.cellsOf t))=some x):∃ a,G a (Rows.uptoBulk x.1)∧Cs w ((cs.drop o).take k) (xG (p a)):=by
 rw[h.sz] at hx
 exact h.rd hx
theorem ebS2 {w t k0 k1}{f0 f1:Field}{α0 α1:Type}{G0:α0→Nat→Prop}{p0:α0→List PV}{G1:α1→Nat→Prop}{p1:α1→List PV}(ht:Tryz.prog.underlying t=some (.struct #[f0,f1]))(hs:Tryz.prog.cellsOf t=k0+k1)
  (o0:f0.offset=0) (o1:f1.offset=k0) (h0:ElB w f0.type k0 G0 p0) (h1:ElB w f1.type k1 G1 p1):ElB w t (k0+k1) (fun (a:α0 × α1) n=>G0 a.1 n∧G1 a.2 n) (fun a=>p0 a.1++p1 a.2) :=
 ⟨hs,fun a n m h g=>⟨h0.up _ n m h g.1,h1.up _ n m h g.2⟩,fun hx=>by
  obtain⟨y0,y1,n,hxe,hl,g0,g1⟩:=Go.ChangeShapes.trod_struct2 ht hx
  obtain⟨a0,u0,v0⟩:=h0.cut g0
  obtain⟨a1,u1,v1⟩:=h1.cut g1
  rw[o0,List.drop_zero] at v0
  rw[o1,List.take_of_length_le (by rw[List.length_drop,hl,hs];omega)] at v1
  have:=v0.app v1
  rw[List.take_append_drop] at this
  refine⟨(a0,a1),⟨h0.up _ _ _ ?_ u0,h1.up _ _ _ ?_ u1⟩,by rw[tU];exact this⟩ <;> (rw[hxe];simp only[Rows.uptoBulk,Rows.uptoBulkAll];omega)⟩
theorem ebS3 {w t k0 k1 k2}{f0 f1 f2:Field}{α0 α1 α2:Type}{G0:α0→Nat→Prop}{p0:α0→List PV}{G1:α1→Nat→Prop}{p1:α1→List PV}{G2:α2→Nat→Prop}{p2:α2→List PV}(ht:Tryz.prog.underlying t=some (.struct #[f0,f1,f2]))(hs:Tryz.prog.cellsOf t=k0+(k1+k2))
  (o0:f0.offset=0) (o1:f1.offset=k0) (o2:f2.offset=k0+k1) (h0:ElB w f0.type k0 G0 p0) (h1:ElB w f1.type k1 G1 p1) (h2:ElB w f2.type k2 G2 p2) :
  ElB w t (k0+(k1+k2)) (fun (a:α0 × α1 × α2) n=>G0 a.1 n∧G1 a.2.1 n∧G2 a.2.2 n) (fun a=>p0 a.1++(p1 a.2.1++p2 a.2.2)) :=
 ⟨hs,fun a n m h g=>⟨h0.up _ n m h g.1,h1.up _ n m h g.2.1,h2.up _ n m h g.2.2⟩,fun {H enc sp m cs x} hx=>by
  obtain⟨y0,y1,y2,n,hxe,hl,g0,g1,g2⟩:=Go.Deep.trod_struct3 ht hx
  obtain⟨a0,u0,v0⟩:=h0.cut g0
  obtain⟨a1,u1,v1⟩:=h1.cut g1
  obtain⟨a2,u2,v2⟩:=h2.cut g2
  rw[o0,List.drop_zero] at v0
  rw[o1] at v1
  rw[o2,List.take_of_length_le (by rw[List.length_drop,hl,hs];omega)] at v2
  rw[←List.drop_drop] at v2
  have e1:=v1.app v2
  rw[List.take_append_drop] at e1
  have:=v0.app e1
  rw[List.take_append_drop] at this
  refine⟨(a0,a1,a2),⟨h0.up _ _ _ ?_ u0,h1.up _ _ _ ?_ u1,h2.up _ _ _ ?_ u2⟩,by rw[tU,tU];exact this⟩ <;> (rw[hxe];simp only[Rows.uptoBulk,Rows.uptoBulkAll];omega)⟩
theorem bU8 (w:World):ElB w 5 1 (fun (b:UInt8) _=>True) (fun b=>[.int .u8 (fun _=>(b.toNat:Int))]) :=
 (zL3 (k:=.u8) Tryz.underlying5 (by kernel_rfl)).map (fun n=>UInt8.ofNat n.toNat) (fun n h=>by
  have:0≤n∧n≤255:=by simpa [Lit.wf,IntKind.min,IntKind.max,IntKind.signed,IntKind.bits] using h
  have e:((UInt8.ofNat n.toNat).toNat:Int)=n:=by
   rw[UInt8.toNat_ofNat_of_lt' (by show n.toNat<256;omega)]
   omega
  show [D.int .u8 _]=[D.int .u8 _]
  rw[e]) (fun _ _=>trivial) |>.bulk
abbrev u8c' (b:UInt8):List PV:=[.int .u8 (fun _=>(b.toNat:Int))]
abbrev u8l (l:List UInt8):PV:=.sl (fun _=>enc u8c' l)
theorem zLL (w:World):ElB w 47 1 (fun (l:List UInt8) n=>l.length≤n) (fun l=>[u8l l]) :=
 (lQ (k:=1) Tryz.underlying47 (by kernel_rfl) (by decide) (bU8 w)).map (fun l=>l) (fun _=>rfl) (fun _ _ h=>h.2) (fun _ _ _ h g=>Nat.le_trans g h)
theorem bNat (w:World):ElB w 25 1 (fun l n=>l.length≤n) (fun l=>[nat l]) :=
 (lQ (k:=1) Tryz.underlying25 (by kernel_rfl) (by decide) (rU32 w).bulk).map (fun l=>l) (fun _=>rfl) (fun _ _ h=>h.2) (fun _ _ _ h g=>Nat.le_trans g h)
theorem bRat (w:World):ElB w 27 3 (fun (x:R) n=>x.sz n) (fun x:R=>[.bool (fun _=>x.neg),nat x.num,nat x.den]) :=
 (ebS3 (k0:=1) (k1:=1) (k2:=1) Tryz.underlying27 (by kernel_rfl) rfl rfl rfl (zQZ w).bulk (bNat w) (bNat w)).map (fun a=>⟨a.1,a.2.1,a.2.2⟩) (fun _=>rfl) (fun _ _ h=>⟨h.2.1,h.2.2⟩) (fun _ _ _ h g=>g.mono h)
theorem zQ7 (w:World):ElB w 54 4 (fun (t:Int × R) n=>t.2.sz n) tc :=
 (ebS2 (k0:=1) (k1:=3) Tryz.underlying54 (by kernel_rfl) rfl rfl (rInt w).bulk (bRat w)).map (fun a=>(a.1,a.2)) (fun _=>rfl) (fun _ _ h=>h.2) (fun _ _ _ h g=>g.mono h)
theorem zQB (w:World):ElB w 23 1 (fun (l:List (Int × R)) n=>(∀ t,t∈l→t.2.sz n)∧l.length≤n) (fun l=>[tsv l]) :=
 (lQ (k:=4) Tryz.underlying23 (by kernel_rfl) (by decide) (zQ7 w)).map (fun l=>l) (fun _=>rfl) (fun _ _ h=>h) (fun _ _ _ h g=>⟨fun t ht=>(g.1 t ht).mono h,Nat.le_trans g.2 h⟩)
structure A.bk (a:A) (n:Nat):Prop where
 t:∀ t,t∈a.ts→t.2.sz n
 len:a.ts.length≤n
 c:a.c.sz n
theorem A.bk.mono {a:A}{n m:Nat}(h:a.bk n)(hm:n≤m):a.bk m:=⟨fun t ht=>(h.t t ht).mono hm,Nat.le_trans h.len hm,h.c.mono hm⟩
theorem bAff (w:World):ElB w 29 4 (fun (a:A) n=>a.bk n) ac :=
 (ebS2 (k0:=1) (k1:=3) Tryz.underlying29 (by kernel_rfl) rfl rfl (zQB w) (bRat w)).map (fun a=>⟨a.1,a.2⟩) (fun _=>rfl) (fun _ _ h=>⟨h.1.1,h.1.2,h.2⟩) (fun _ _ _ h g=>g.mono h)
theorem zQ8 (w:World):ElB w 22 1 (fun (l:List A) n=>(∀ a,a∈l→a.bk n)∧l.length≤n) (fun l=>[alv l]) :=
 (lQ (k:=4) Tryz.underlying22 (by kernel_rfl) (by decide) (bAff w)).map (fun l=>l) (fun _=>rfl) (fun _ _ h=>h) (fun _ _ _ h g=>⟨fun t ht=>(g.1 t ht).mono h,Nat.le_trans g.2 h⟩)
structure Prg.bk (P:Prg) (n:Nat):Prop where
 v:-9223372036854775808≤P.v∧P.v≤9223372036854775807
 rows:∀ a,a∈P.rows→a.bk n
 len:P.rows.length≤n
 ob:P.ob.bk n
theorem mI (w:World):ElB w 31 6 (fun (P:Prg) n=>P.bk n) pgc :=
 (ebS3 (k0:=1) (k1:=1) (k2:=4) Tryz.underlying31 (by kernel_rfl) rfl rfl rfl (rInt w).bulk (zQ8 w) (bAff w)).map (fun a=>⟨a.1,a.2.1,a.2.2⟩) (fun _=>rfl)
  (fun _ _ h=>⟨by simpa [Lit.wf,IntKind.min,IntKind.max,IntKind.signed,IntKind.bits] using h.1,h.2.1.1,h.2.1.2,h.2.2⟩) (fun _ _ _ h g=>⟨g.v,fun a ha=>(g.rows a ha).mono h,Nat.le_trans g.len h,g.ob.mono h⟩)
theorem A.bk.sz {a:A}{n m:Nat}(h:a.bk n)(hn:n≤2^20)(hm:n≤m):a.sz m:=⟨⟨by have:=h.len;omega,fun t ht=>(h.t t ht).mono hm⟩,h.c.mono hm⟩
theorem Prg.bk.sz {P:Prg}{n m:Nat}(h:P.bk n)(hn:n≤2^20)(hm:n≤m):P.sz m:=⟨⟨by have:=h.len;omega,fun a ha=>(h.rows a ha).sz hn hm⟩,h.ob.sz hn hm⟩
theorem dS {w:World}{cs:Array Value}{pv:List PV}(hf:yQ kP pv=true)(h:Cs w cs.toList (xG pv)):Rep w (InW w) β0 (.agg cs) (.agg pv):=by
 have hl:=h.len
 rw[vZ] at hl
 refine .agg (by simpa using hl) fun j hj=>?_
 have:=h.get j (by rw[vZ];exact hj)
 rw[u7] at this
 refine .c (y9 rfl hf j) ?_
 have e:cs.toList.getD j undef=cs.getD j undef:=by simp [List.getD_eq_getElem?_getD]
 rw[←e]
 exact this.1
theorem zF9 (l:List Rat):enc rc (l.map zK)=enc cq l:=by unfold enc;rw[List.map_map];rfl
abbrev prg (v:Nat) (fs:List F) (ob:F):Prg:=⟨v,fs.map fA,fA ob⟩
structure PSm (v:Nat) (fs:List F) (ob:F):Prop where
 lv:v≤1280
 sz:(prg v fs ob).sz (2^30)
 ok:(prg v fs ob).valid=true
 rows:∀ f,f∈fs→f.fl 2 8∧f.wf (v:Int)
 obj:ob.fl 2 8∧ob.wf (v:Int)
 len:fs.length≤14
theorem sEvQ {f:F}{l:List Rat}{v:Nat}(hf:f.fl 2 8)(hw:f.wf (v:Int))(hl:lfit (2^23) l)(hv:l.length=v)(hv2:v≤1280) :
  zD 149 [av (fA f),qlv l] (.tup [rv (zK (f.at (xr l))),.int .i64 (fun _=>0)]):=by
 have:=zQS f l (m:=2^23) hf (by rw[hv];exact hw) hl (by decide) (by decide) (by decide) (by decide) (by rw[hv];exact Nat.lt_of_le_of_lt hv2 (by decide))
 have e:rlv (l.map zK)=qlv l:=by show PV.sl _=PV.sl _;rw[zF9]
 rw[e] at this
 exact this
theorem zET {f:F}{l:List Rat}{v:Nat}(hf:f.fl 2 8)(hw:f.wf (v:Int))(hl:lfit (2^23) l)(hv:l.length=v):Fits (2^27) (f.at (xr l)):=by
 have fx:=zNR (f:=f) (l:=l) (m:=2^23) (by rw[hv];exact hw) hl
 have h1:=oB hf fx f.ts.length
 have h2:evS f (xr l) f.ts.length=f.at (xr l):=zHE f _
 rw[h2] at h1
 exact h1.mono (by have:=hf.len;have:(2+2^23+1) * f.ts.length≤(2+2^23+1) * 8:=Nat.mul_le_mul_left _ this;omega)
theorem zN0 {v:Nat}{fs:List F}{ob:F}{x:List Rat}(hP:PSm v fs ob)(hx:lfit (2^23) x)(hv:x.length=v)(h0:∀ f,f∈fs→0≤f.at (xr x)):zD 112 [pgv (prg v fs ob),qlv x] (.bool (fun _=>true)):=by
 have cv:=zI1 _ (hP.sz.mono (by decide))
 rw[hP.ok] at cv
 have hvv:=hP.lv
 have hln:=hP.len
 have ce:∀ (i:Nat) f,fs[i]?=some f→zD 149 [av (fA f),qlv x] (.tup [rv (zK (f.at (xr x))),.int .i64 (fun _=>0)]):=fun i f hf=>by
  have:=hP.rows f (List.mem_of_getElem? hf)
  exact sEvQ this.1 this.2 hx hv hvv
 have cs:∀ (i:Nat) f,fs[i]?=some f→zD 31 [rv (zK (f.at (xr x)))] (.int .i64 (fun _=>yW (f.at (xr x)))):=fun i f hf=>by
  have:=hP.rows f (List.mem_of_getElem? hf)
  have h3:=s35 (zK (f.at (xr x))) (by have:=(z7 (zET this.1 this.2 hx hv)).n;omega)
  rw[yN] at h3
  exact h3
 have cg:∀ (i:Nat) f,fs[i]?=some f→0≤yW (f.at (xr x)):=fun i f hf=>by
  have:=h0 f (List.mem_of_getElem? hf)
  unfold yW
  split
  ·grind
  ·split <;> decide
 refine sF Tryz.f112 ?_
 show wp _ ⟨s6 0 [.agg [.int .i64 (fun _=>(v:Int)),.sl (fun _=>enc ac (fs.map fA)),tsv (fA ob).ts,.bool (fun _=>(fA ob).c.neg),nat (fA ob).c.num,nat (fA ob).c.den],qlv x],_⟩ _
 clear hP h0
 obtain⟨US,hUS⟩:∃ US,fs.map fA=US:=⟨_,rfl⟩
 have hUl:US.length=fs.length:=by rw[←hUS,List.length_map]
 obtain⟨A0,hA0⟩:∃ A0,fA ob=A0:=⟨_,rfl⟩
 have cv':zD 24 [.agg [.int .i64 (fun _=>(v:Int)),.sl (fun _=>enc ac (fs.map fA)),tsv (fA ob).ts,.bool (fun _=>(fA ob).c.neg),nat (fA ob).c.num,nat (fA ob).c.den]] (.bool (fun _=>true)):=cv
 clear cv
 rw[hUS,hA0] at cv'
 rw[hUS,hA0]
 obtain⟨ots,oc⟩:=A0
 obtain⟨tru,htru⟩:∃ b,b=true:=⟨_,rfl⟩
 rw[←htru] at cv'
 cbv
 refine cA cv' ?_
 cbv
 refine xF (fun e1=>?_) (fun e1=>by rw[htru] at e1;cases e1)
 cbv
 refine zG (fun e2=>?_) (fun e2=>?_)
 rotate_left
 ·exact absurd (by rw[zM,hv]) e2
 cbv
 refine z9 (σ:=Nat) (fun i=>⟨[(1,qlv x),(2,.ptr 2 0),(5,.int .i64 (fun _=>(i:Int)))],[(2,.box [.int .i64 (fun _=>(v:Int)),alv US,tsv ots,.bool (fun _=>oc.neg),nat oc.num,nat oc.den])]⟩) (fun i=>i≤US.length) (fun i=>US.length - i) 0 (Nat.zero_le _) (wkZ) ?_
 intro i h1
 cbv
 refine zG (fun h5=>?_) (fun h5=>?_)
 ·have hlt:=bG h5
  obtain⟨f,hf⟩:=zU (show i<fs.length by omega)
  have hUi:US[i]?=some (fA f):=by rw[←hUS,List.getElem?_map,hf];rfl
  have ce1:=ce i f hf
  have cs1:=cs i f hf
  have cg1:=cg i f hf
  obtain⟨a,ha⟩:∃ a,fA f=a:=⟨_,rfl⟩
  obtain⟨w,hw⟩:∃ w,zK (f.at (xr x))=w:=⟨_,rfl⟩
  obtain⟨sg,hsg⟩:∃ w,yW (f.at (xr x))=w:=⟨_,rfl⟩
  rw[ha] at hUi ce1
  rw[hw] at ce1 cs1
  rw[hsg] at cs1 cg1
  cbv
  refine vX hUi uN uE ?_
  cbv
  refine cA ce1 ?_
  cbv
  refine xO rfl ?_
  cbv
  refine cA cs1 ?_
  cbv
  refine gD om ?_
  cbv
  exact⟨zF om om,i+1,om,om,wkZ⟩
 ·cbv
  (refine rC ?_;cbv)
  exact zS rfl
theorem zPB {v:Nat}{fs:List F}{ob:F}{x:List Rat}(hP:PSm v fs ob)(hx:lfit (2^23) x)(hv:x.length=v):zD 113 [pgv (prg v fs ob),qlv x] (.tup [rv (zK (ob.at (xr x))),.int .i64 (fun _=>0)]):=by
 have cv:=zI1 _ (hP.sz.mono (by decide))
 rw[hP.ok] at cv
 have ce:=sEvQ hP.obj.1 hP.obj.2 hx hv hP.lv
 refine sF Tryz.f113 ?_
 show wp _ ⟨s6 0 [.agg [.int .i64 (fun _=>(v:Int)),.sl (fun _=>enc ac (fs.map fA)),tsv (fA ob).ts,.bool (fun _=>(fA ob).c.neg),nat (fA ob).c.num,nat (fA ob).c.den],qlv x],_⟩ _
 have hvv:=hP.lv
 have cv':zD 24 [.agg [.int .i64 (fun _=>(v:Int)),.sl (fun _=>enc ac (fs.map fA)),tsv (fA ob).ts,.bool (fun _=>(fA ob).c.neg),nat (fA ob).c.num,nat (fA ob).c.den]] (.bool (fun _=>true)):=cv
 clear cv hP
 obtain⟨US,hUS⟩:∃ US,fs.map fA=US:=⟨_,rfl⟩
 obtain⟨A0,hA0⟩:∃ A0,fA ob=A0:=⟨_,rfl⟩
 obtain⟨w,hw⟩:∃ w,zK (ob.at (xr x))=w:=⟨_,rfl⟩
 rw[hUS,hA0] at cv'
 rw[hA0,hw] at ce
 rw[hUS,hA0,hw]
 obtain⟨ots,oc⟩:=A0
 obtain⟨tru,htru⟩:∃ b,b=true:=⟨_,rfl⟩
 rw[←htru] at cv'
 cbv
 refine cA cv' ?_
 cbv
 refine yA (fun e1=>?_) (fun e1=>by rw[htru] at e1;cases e1)
 cbv
 refine zG (fun e2=>?_) (fun e2=>?_)
 rotate_left
 ·exact absurd (by rw[zM,hv]) e2
 cbv
 refine cA ce ?_
 cbv
 (refine rC ?_;cbv)
 exact okA
theorem zLS {v:Nat}{US:List A}{ob:A}{x:List Rat}(hx:lfit (2^30) x)(hv:x.length=v)(hvv:v≤1280):zD 111 [pgv ⟨(v:Int),US,ob⟩,qlv x] (.bool (fun _=>true)):=by
 have cv:∀ (i:Nat) c,x[i]?=some c→zD 62 [rv (zK c)] (.bool (fun _=>true)):=fun i c hc=>by
  have:=s129 (zK c) ((z7 (hx c (List.mem_of_getElem? hc))).mono (by decide))
  rw[sC] at this
  exact this
 obtain⟨ots,oc⟩:=ob
 refine sF Tryz.f111 ?_
 obtain⟨tru,htru⟩:∃ b,b=true:=⟨_,rfl⟩
 rw[←htru] at cv
 cbv
 refine zG (fun e2=>?_) (fun e2=>?_)
 rotate_left
 ·exact absurd (by rw[zM,hv]) e2
 cbv
 refine z9 (σ:=Nat) (fun i=>⟨[(1,qlv x),(5,.int .i64 (fun _=>(i:Int)))],[]⟩) (fun i=>i≤x.length) (fun i=>x.length - i) 0 (Nat.zero_le _) (wkZ) ?_
 intro i h1
 cbv
 refine zG (fun h5=>?_) (fun h5=>?_)
 ·have hlt:=bG h5
  obtain⟨c,hc⟩:=zU hlt
  have cv1:=cv i c hc
  obtain⟨C,hC⟩:∃ C,zK c=C:=⟨_,rfl⟩
  rw[hC] at cv1
  have hc':(x.map zK)[i]?=some C:=by rw[List.getElem?_map,hc,←hC];rfl
  cbv
  rw[←zF9]
  refine vX hc' tD iZ ?_
  cbv
  refine cA cv1 ?_
  cbv
  refine yA (fun e3=>?_) (fun e3=>by rw[htru] at e3;cases e3)
  cbv
  exact⟨zF om om,i+1,om,om,wkZ⟩
 ·cbv
  (refine rC ?_;cbv)
  exact zS rfl
theorem zHS:zK 0=⟨false,[],[]⟩:=by unfold zK;simp [zZ]
theorem zGJ {q:Rat}(h:0≤q):0≤yW q:=by
 unfold yW
 split
 ·grind
 ·split <;> decide
theorem zKA:fA F.zero=⟨[],⟨false,[],[]⟩⟩:=by rw[zNC]
theorem zNZ {v:Nat}{fs:List F}{ob:A}{ds:List Rat}(hw:∀ f,f∈fs→f.fl 2 8∧f.wf (v:Int))(hln:fs.length≤14)(hd:ds.length=fs.length)(hn:∀ c,c∈ds→0≤c)(hf:lfit (2^22) ds) :
  zD 114 [pgv ⟨(v:Int),fs.map fA,ob⟩,qlv ds] (.tup [av (fA (vE fs ds F.zero)),.bool (fun _=>true)]):=by
 have cv:∀ (i:Nat) c,ds[i]?=some c→zD 62 [rv (zK c)] (.bool (fun _=>true)):=fun i c hc=>by
  have:=s129 (zK c) ((z7 (hf c (List.mem_of_getElem? hc))).mono (by decide))
  rw[sC] at this
  exact this
 have cs:∀ (i:Nat) c,ds[i]?=some c→zD 31 [rv (zK c)] (.int .i64 (fun _=>yW c))∧0≤yW c:=fun i c hc=>by
  have h3:=s35 (zK c) (by have:=(z7 (hf c (List.mem_of_getElem? hc))).n;omega)
  rw[yN] at h3
  exact⟨h3,zGJ (hn c (List.mem_of_getElem? hc))⟩
 have st:∀ (i:Nat) (acc:F) f c,fs[i]?=some f→ds[i]?=some c→acc.fl (1+(2^22+6) * i) (8 * i)→Cn acc.ts →
   zD 27 [av (fA f),rv (zK c)] (av (fA (f.scale c)))∧zD 29 [av (fA acc),av (fA (f.scale c))] (av (fA (acc.add (f.scale c))))∧(acc.add (f.scale c)).fl (1+(2^22+6) * (i+1)) (8 * (i+1))∧Cn (acc.add (f.scale c)).ts:=fun i acc f c h1 h2 h3 h4=>by
  have h5:=hw f (List.mem_of_getElem? h1)
  have h6:=hf c (List.mem_of_getElem? h2)
  have hi:=yR h1
  have h7:=h5.1.scale h6
  have h8:Cn (f.scale c).ts:=(Cn.mrg Cn.nil h5.2.cn)
  exact⟨p4 h5.1 h6 (by decide) (by decide) (by decide),zN5 h4 h8 h3 h7 (by omega) (by decide) (by omega) (by decide),(h3.add h7).mono (by omega) (by omega),h4.mrg h8⟩
 obtain⟨US,hUS⟩:∃ US,fs.map fA=US:=⟨_,rfl⟩
 have hUl:US.length=fs.length:=by rw[←hUS,List.length_map]
 obtain⟨T,hT⟩:∃ T,fA (vE fs ds F.zero)=T:=⟨_,rfl⟩
 rw[hT,hUS]
 obtain⟨ots,oc⟩:=ob
 have h00:∃ acc:F,fA acc=⟨[],⟨false,[],[]⟩⟩∧acc.fl (1+(2^22+6) * 0) (8 * 0)∧Cn acc.ts∧T=fA (vE (fs.drop 0) (ds.drop 0) acc) :=
  ⟨F.zero,zKA,⟨fun t ht=>absurd ht (by simp [F.zero]),xQ (by decide),Nat.le_refl _⟩,Cn.nil,hT.symm⟩
 refine sF Tryz.f114 ?_
 obtain⟨tru,htru⟩:∃ b,b=true:=⟨_,rfl⟩
 rw[←htru] at cv
 clear hT hw hn hf
 cbv
 refine zG (fun e2=>?_) (fun e2=>?_)
 rotate_left
 ·exact absurd (by rw[zM,zM];show (ds.length:Int)=(US.length:Int);omega) e2
 cbv
 refine z9 (σ:=Nat × A) (fun s=>⟨[(1,qlv ds),(2,.ptr 2 0),(4,.ptr 4 0),(6,.ptr 6 0),(7,.int .i64 (fun _=>(s.1:Int)))],[(2,.box [.int .i64 (fun _=>(v:Int)),alv US,tsv ots,.bool (fun _=>oc.neg),nat oc.num,nat oc.den]),(4,.box [.nil,.ff,.nil,.nil]),(6,.box [tsv s.2.ts,.bool (fun _=>s.2.c.neg),nat s.2.c.num,nat s.2.c.den])]⟩)
  (fun s=>s.1≤ds.length∧∃ acc:F,fA acc=s.2∧acc.fl (1+(2^22+6) * s.1) (8 * s.1)∧Cn acc.ts∧T=fA (vE (fs.drop s.1) (ds.drop s.1) acc)) (fun s=>ds.length - s.1) (0,⟨[],⟨false,[],[]⟩⟩) ⟨Nat.zero_le _,h00⟩ (.le okZ (by cbv;repeat' first | exact trivial | exact lR | exact zQ rfl | exact zO rfl | apply And.intro) rfl) ?_
 clear h00
 intro s hs
 obtain⟨i,a⟩:=s
 obtain⟨h1,acc,hacc,g1,g2,g3⟩:=hs
 dsimp only at h1 hacc g1 g2 g3
 cbv
 refine zG (fun h5=>?_) (fun h5=>?_)
 ·have hlt:=bG h5
  obtain⟨c,hc⟩:=zU hlt
  obtain⟨f,hff⟩:=zU (show i<fs.length by omega)
  have hUi:US[i]?=some (fA f):=by rw[←hUS,List.getElem?_map,hff];rfl
  have cv1:=cv i c hc
  obtain⟨cs1,cs2⟩:=cs i c hc
  obtain⟨k1,k2,k3,k4⟩:=st i acc f c hff hc g1 g2
  rw[qF hff,qF hc,vE] at g3
  obtain⟨acc2,hacc2⟩:∃ x,acc.add (f.scale c)=x:=⟨_,rfl⟩
  rw[hacc2] at k2 k3 k4 g3
  have h00:∃ acc:F,fA acc=fA acc2∧acc.fl (1+(2^22+6) * (i+1)) (8 * (i+1))∧Cn acc.ts∧T=fA (vE (fs.drop (i+1)) (ds.drop (i+1)) acc):=⟨acc2,rfl,k3,k4,g3⟩
  obtain⟨b,hb⟩:∃ b,fA f=b:=⟨_,rfl⟩
  obtain⟨w,hw⟩:∃ w,zK c=w:=⟨_,rfl⟩
  obtain⟨m,hm⟩:∃ w,fA (f.scale c)=w:=⟨_,rfl⟩
  obtain⟨n,hn⟩:∃ w,fA acc2=w:=⟨_,rfl⟩
  obtain⟨sg,hsg⟩:∃ w,yW c=w:=⟨_,rfl⟩
  rw[hb] at hUi k1
  rw[hw] at cv1 cs1 k1
  rw[hm] at k1 k2
  rw[hn] at k2 h00
  rw[hacc] at k2
  rw[hsg] at cs1 cs2
  have hc':(ds.map zK)[i]?=some w:=by rw[List.getElem?_map,hc,←hw];rfl
  clear g1 g2 g3 k3 k4 hacc hacc2
  cbv
  rw[←zF9]
  refine vX hc' tD iZ ?_
  cbv
  refine cA cv1 ?_
  cbv
  refine xF (fun e3=>?_) (fun e3=>by rw[htru] at e3;cases e3)
  cbv
  refine vX hc' tD iZ ?_
  cbv
  refine cA cs1 ?_
  cbv
  refine gD om ?_
  cbv
  refine zY 12 (by cbv) ?_
  cbv
  refine vX hUi uN uE ?_
  cbv
  refine vX hc' tD iZ ?_
  cbv
  refine dA k1 ?_
  cbv
  refine dA k2 ?_
  cbv
  exact⟨zF om om,(i+1,n),⟨om,h00⟩,om,wkZ⟩
 ·have hi:i=ds.length:=by have:=nF h5;omega
  have hTa:T=a:=by
   rw[g3,←hacc,hi,List.drop_length,hd,List.drop_length]
   unfold vE
   rfl
  subst hTa
  cbv
  (refine rC ?_;cbv)
  exact okA
theorem zNY {v:Nat}{f:F}{x:List Rat}(hf:f.fl 2 8)(hw:f.wf (v:Int))(hx:lfit (2^23) x)(hv:x.length=v)(hv2:v≤1280):zD 115 [av (fA f),qlv x] (rv (zK ((dirF f).at (xr x)))):=by
 have ce:=sEvQ (f:=dirF f) (l:=x) (v:=v) ⟨hf.t,xQ (by decide),hf.len⟩ ⟨hw.cn,hw.v⟩ hx hv hv2
 have e:fA (dirF f)=⟨(fA f).ts,⟨false,[],[]⟩⟩:=by
  show (⟨tR f.ts,zK 0⟩:A)=_
  rw[zHS];rfl
 rw[e] at ce
 refine sF Tryz.f115 ?_
 obtain⟨a,ha⟩:∃ a,fA f=a:=⟨_,rfl⟩
 obtain⟨w,hw⟩:∃ w,zK ((dirF f).at (xr x))=w:=⟨_,rfl⟩
 rw[ha,hw] at ce
 rw[ha,hw]
 obtain⟨ats,ac0⟩:=a
 cbv
 refine cA ce ?_
 cbv
 (refine rC ?_;cbv)
 exact okA
end Go.Proofs.YtfainocfaddbdaaGreat
