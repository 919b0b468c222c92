/- A part of the proof: SxE, SxF, SxG, SxH, SxI. -/
import Derived.Test.YtfainocfaddbdaaGreatZ28
set_option linter.all false
namespace Go.Proofs.YtfainocfaddbdaaGreat
open Go
def nM (p:Nat->Bool):Nat->Nat
 |0=>0| i+1=>nM p i+(if p i=true then 2^i else 0)
theorem aN (p:Nat->Bool):∀ M,nM p M<2^M
 |0=>Nat.lt_of_lt_of_le Nat.zero_lt_one (Nat.le_refl _)| i+1=>by have:=aN p i;rw[Nat.pow_succ];unfold nM;split <;> omega
theorem cL {p q:Nat->Bool}:∀ {M:Nat},nM p M=nM q M->∀ i,i<M->p i=q i
 |0,_,i,h=>absurd h (by omega)| n+1,h,i,hi=>by
  (have h1:=aN p n;have h2:=aN q n;unfold nM at h;cases hp:p n <;> cases hq:q n <;> simp only[hp,hq,if_true,if_false,Bool.false_eq_true] at h);{by_cases e:i=n;{rw[e,hp,hq]};{exact cL (M:=n) (by omega) i (by omega)}}
  {omega};{omega};{by_cases e:i=n;{rw[e,hp,hq]};{exact cL (M:=n) (by omega) i (by omega)}}
theorem mW:∀ (N:Nat) {l:List Nat},l.Nodup->(∀ x,x∈l->x<N)->l.length<=N
 |0,l,_,h=>by
  cases l with
  |nil=>exact Nat.le_refl _| cons a r=>exact absurd (h a List.mem_cons_self) (by omega)
 |N+1,l,hn,h=>by
  by_cases hm:N∈l
  ·have h1:=mW N (hn.erase N) fun x hx=>by
    (have h2:=h x (List.mem_of_mem_erase hx);have h3:x≠N:=fun e=>by rw[e] at hx;exact (List.Nodup.not_mem_erase hn) hx);omega
   rw[List.length_erase_of_mem hm] at h1;omega
  ·(have:=mW N hn fun x hx=>by have h2:=h x hx;have h3:x≠N:=fun e=>hm (e ▸ hx);omega);omega
theorem zHB {f:Nat->Nat}{k N:Nat}(hf:∀ i,i<k->f i<N)(hi:∀ i j,i<j->j<k->f i≠f j):k<=N:=by
 have h1:((List.range k).map f).Nodup:=by rw[List.nodup_iff_pairwise_ne,List.pairwise_map];refine List.Pairwise.imp_of_mem (R:=fun a b=>a<b) ?_ List.pairwise_lt_range;intro a b ha hb hab;exact hi a b hab (List.mem_range.1 hb)
 have h2:=mW N h1 fun x hx=>by obtain⟨i,h3,rfl⟩:=List.mem_map.1 hx;exact hf i (List.mem_range.1 h3)
 simpa using h2
section
variable {fr:Nat->Bool} {z:(Nat->Rat)->Rat} {D:Nat->Dic} {l:Nat->List Rat} {r e:Nat->Nat} {k:Nat}
theorem BRun.part (h:BRun fr z D l r e k){a n:Nat}(ha:a+n<=k):BRun fr z (fun i=>D (a+i)) (fun i=>l (a+i)) (fun i=>r (a+i)) (fun i=>e (a+i)) n where
 wf i hi:=h.wf _ (by omega)
 line i hi:=h.line _ (by omega)
 feas i hi:=h.feas _ (by omega)
 step i hi:=by obtain⟨h1,h2⟩:=h.step (a+i) (by omega);exact⟨h1,h2⟩
theorem BRun.freeN (h:BRun fr z D l r e k){v i:Nat}(hv:fr v=true):∀ n,i+n<=k->(v∈(D i).nb↔v∈(D (i+n)).nb)
 |0,_=>Iff.rfl
 |n+1,hn=>by rw[h.freeN hv n (by omega)];obtain⟨s,_⟩:=h.step (i+n) (by omega);have:=h.nbn (i:=i+n) (by omega) v;rw[show i+(n+1)=i+n+1 by omega,this];constructor;{exact fun h1=>.inr ⟨h1,fun e2=>by rw[e2,s.efr] at hv;cases hv⟩};{rintro (h1|h1);{rw[h1,s.rfr] at hv;cases hv};{exact h1.1}}
theorem BRun.few (h:BRun fr z D l r e k){base M:Nat}(hM:∀ v,v∈(D 0).bs\/v∈(D 0).nb->fr v=false->base<=v/\v<base+M):k+1<=2^M:=by
 refine zHB (f:=fun i=>nM (fun n=>decide (base+n∈(D i).nb)) M) (fun i _=>aN _ _) fun i j hij hj he=>?_;have hp:=h.part (a:=i) (n:=j-i) (by omega);refine hp.no_cycle (by omega) fun v=>?_;show v∈(D (i+0)).nb↔v∈(D (i+(j-i))).nb;cases hv:fr v with
 |true =>
  rw[Nat.add_zero];exact h.freeN hv _ (by omega)
 |false =>
  rw[Nat.add_zero,show i+(j-i)=j by omega];have key:∀ {a},a<=k->v∈(D a).nb->base<=v/\v<base+M:=fun ha hin=>hM v ((h.vars _ ha).1 (.inr hin)) hv;constructor;{intro h1;obtain⟨g1,g2⟩:=key (by omega) h1;have:=cL he (v-base) (by omega);rw[show base+(v-base)=v by omega,decide_eq_true h1] at this;exact of_decide_eq_true this.symm};{intro h1;obtain⟨g1,g2⟩:=key (by omega) h1;have:=cL he (v-base) (by omega);rw[show base+(v-base)=v by omega,decide_eq_true h1] at this;exact of_decide_eq_true this}
end
def Dic.feas (fr:Nat->Bool) (D:Dic):Prop:=∀ j,j<D.bs.length->fr (D.bs.getD j 0)=false->0<=D.cst j
theorem BStep.feas {fr:Nat->Bool}{D:Dic}{l:List Rat}{r e:Nat}(s:BStep fr D l r e)(h:D.wf)(hf:D.feas fr):(D.piv r e).feas fr:=fun i hi hfr=>by
 have h0:D.at r e≠0:=fun e0=>by have:=s.rneg;rw[e0] at this;exact absurd this (by decide)
 have w':=Dic.piv_wf h s.hr s.he;have hS':=Dic.ext_sat w' fun _=>(0:Rat);have hS:=(Dic.piv_sat h s.hr s.he h0).1 hS';generalize hQ:(D.piv r e).ext (fun _=>(0:Rat))=Q at *
 have hN:∀ v,v∈(D.piv r e).nb->Q v=0:=fun v hv=>by rw[<-hQ];exact Dic.ext_nb w' _ hv
 have hb:=yL (d:=0) s.hr;have hy:=yL (d:=0) s.he;have hz:∀ j,j<D.nb.length->j≠e->Q (D.nb.getD j 0)=0:=fun j hj hne=>hN _ ((Dic.piv_nb h hb hy _).2 (.inr ⟨yN hj,fun e2=>hne (v4 h.nb (by rw[yL hj,e2]) hy)⟩));have hQb:Q (D.bs.getD r 0)=0:=hN _ ((Dic.piv_nb h hb hy _).2 (.inl rfl));have h1:Q (D.bs.getD r 0)=D.at r e*Q (D.nb.getD e 0)+D.cst r:=Dic.one_bs h s.he hz hb hS;rw[hQb] at h1;have hn:=s.rneg;have hc:=hf r s.hr s.rfr;have hth:Q (D.nb.getD e 0)=D.cst r / -(D.at r e):=by
  (rw[Rat.div_def];have hne:-(D.at r e)≠0:=by grind);have hi:=Rat.mul_inv_cancel _ hne
  generalize (-(D.at r e))⁻¹=w at *
  generalize D.at r e=a at *
  generalize Q (D.nb.getD e 0)=q at *
  (have:D.cst r=-a*q:=by grind);rw[this]
  grind
 have hth0:0<=Q (D.nb.getD e 0):=by rw[hth,Rat.div_def];exact Rat.mul_nonneg hc (Rat.le_of_lt (Rat.inv_pos.2 (by grind)))
 obtain⟨v,hv⟩:∃ v,v=(D.piv r e).bs.getD i 0:=⟨_,rfl⟩;have hvi:(D.piv r e).bs[i]?=some v:=by rw[hv];exact yL hi
 rw[<-Dic.zero_bs w' hN hvi hS'];rw[<-hv] at hfr;rcases (Dic.piv_bs h hb hy v).1 (List.mem_of_getElem? hvi) with h2|⟨h2,h3⟩;{rw[h2];exact hth0}
 ·obtain⟨m,hm⟩:=xL h2;rw[Dic.one_bs h s.he hz hm hS];have hml:=yK hm;have hmv:D.bs.getD m 0=v:=getD_some hm;have hcm:=hf m hml (by rw[hmv];exact hfr);by_cases ha:D.at m e<0
  ·(have:=s.rmin m hml (by rw[hmv];exact hfr) ha;rw[<-hth,Rat.div_def] at this;have hp:0 < -(D.at m e):=by grind);have hi:=Rat.mul_inv_cancel (-(D.at m e)) (by grind)
   have h4:0<=(D.cst m*(-(D.at m e))⁻¹-Q (D.nb.getD e 0)) * -(D.at m e):=Rat.mul_nonneg (by grind) (Rat.le_of_lt hp);generalize (-(D.at m e))⁻¹=w at *
   generalize D.at m e=a at *
   generalize Q (D.nb.getD e 0)=q at *
   generalize D.cst m=c at *
   (have h5:(c*w-q) * -a=c*(-a*w)+q*a:=by grind);rw[h5,hi] at h4
   grind
  {have:=Rat.mul_nonneg (show 0<=D.at m e by grind) hth0;grind}
theorem BRun.snoc {fr:Nat->Bool}{z:(Nat->Rat)->Rat}{D:Nat->Dic}{l:Nat->List Rat}{r e:Nat->Nat}{k:Nat}(h:BRun fr z D l r e k){r' e':Nat}{l':List Rat}(s:BStep fr (D k) (l k) r' e')(hl:∀ X,((D k).piv r' e').Sat X->z X=dot X ((D k).piv r' e').nb l'):BRun fr z (fun i=>if i<=k then D i else (D k).piv r' e') (fun i=>if i<=k then l i else l') (fun i=>if i<k then r i else r') (fun i=>if i<k then e i else e') (k+1) where
 wf i hi:=by split;{rename_i h1;exact h.wf i h1};{exact Dic.piv_wf (h.wf k (Nat.le_refl _)) s.hr s.he}
 line i hi:=by split;{rename_i h1;exact h.line i h1};{exact hl}
 feas i hi:=by split;{rename_i h1;exact h.feas i h1};{exact s.feas (h.wf k (Nat.le_refl _)) (h.feas k (Nat.le_refl _))}
 step i hi:=by by_cases h1:i<k;{rw[if_pos (by omega),if_pos (by omega),if_pos h1,if_pos h1,if_pos (by omega)];exact h.step i h1};{rw[if_pos (by omega),if_pos (by omega),if_neg h1,if_neg h1,if_neg (by omega),show i=k by omega];exact⟨s,rfl⟩}
theorem BRun.zero {fr:Nat->Bool}{z:(Nat->Rat)->Rat}{D:Dic}{l:List Rat}(h:D.wf)(hf:D.feas fr)(hl:∀ X,D.Sat X->z X=dot X D.nb l):BRun fr z (fun _=>D) (fun _=>l) (fun _=>0) (fun _=>0) 0 where
 wf i _:=h
 line i _:=hl
 feas i _:=hf
 step i hi:=absurd hi (by omega)
def aL (v:Nat) (nb:List Nat) (l:List Rat):List Nat->Nat->Int->Int
 |[],_,b=>b| y::ys,j,b=>aL v nb l ys (j+1) (if v<=y/\l.getD j 0<0/\(b<0\/y<nb.getD b.toNat 0) then (j:Int) else b)
def ent (v:Nat) (nb:List Nat) (l:List Rat):Int:=aL v nb l nb 0 (-1)
def lvGo (v e:Nat) (D:Dic):List Nat->Nat->Int->Rat->Int
 |[],_,b,_=>b| y::ys,i,b,q =>
  if v<=y/\D.at i e<0 then
   (if b<0\/D.cst i/(-D.at i e)<q\/(D.cst i/(-D.at i e)=q/\y<D.bs.getD b.toNat 0) then lvGo v e D ys (i+1) (i:Int) (D.cst i/(-D.at i e)) else lvGo v e D ys (i+1) b q)
  else lvGo v e D ys (i+1) b q
def lvR (v e:Nat) (D:Dic):Int:=lvGo v e D D.bs 0 (-1) 0
def sZ (v e:Nat) (D:Dic):List Nat->Nat->Option Nat
 |[],_=>none| b::bs,i=>if v<=b/\D.at i e≠0 then some i else sZ v e D bs (i+1)
def relS (v e:Nat) (D:Dic) (p:Nat):Dic×Nat :=
 match sZ v e D D.bs 0 with
 |some i=>(D.piv i e,p+1)| none=>(D,p)
def rel (v:Nat):List Nat->Nat->Dic×Nat->Dic×Nat
 |[],_,s=>s| y::ys,e,s=>rel v ys (e+1) (if y<v then relS v e s.1 s.2 else s)
def wR (v:Nat) (ln:Dic->List Rat):Nat->Dic->Nat->Dic×Nat×Int×Bool
 |0,D,p=>(D,p,-1,decide (p<=65536))| f+1,D,p =>
  if p<=65536 then
   (if ent v D.nb (ln D)<0 then (D,p,-1,true)
   else if lvR v (ent v D.nb (ln D)).toNat D<0 then (D,p,ent v D.nb (ln D),true)
   else wR v ln f (D.piv (lvR v (ent v D.nb (ln D)).toNat D).toNat (ent v D.nb (ln D)).toNat) (p+1))
  else (D,p,-1,false)
def bK (x:Nat):List Nat->Nat->Int
 |[],_=>-1| y::ys,i=>if x=y then (i:Int) else bK x ys (i+1)
def wO (l:List Nat) (x:Nat):Int:=bK x l 0
def vio (aux:Nat) (D:Dic):List Rat :=
 if 0<=wO D.bs aux then D.fs.getD (wO D.bs aux).toNat [] else (List.replicate (D.nb.length+1) 0).set (wO D.nb aux).toNat 1
def wrGo (v:Nat) (D:Dic):List Nat->Nat->Int->Int
 |[],_,b=>b| y::ys,i,b=>wrGo v D ys (i+1) (if v<=y/\D.cst i<0/\(b<0\/D.cst i<D.cst b.toNat) then (i:Int) else b)
def wrs (v:Nat) (D:Dic):Int:=wrGo v D D.bs 0 (-1)
def ins (c:Nat) (x:Rat) (l:List Rat):List Rat:=l.take c++x::l.drop c
def oO (v c:Nat):List Nat->List (List Rat)->List (List Rat)
 |b::bs,l::ls=>ins c (if b<v then 0 else 1) l::oO v c bs ls| _,_=>[]
def Dic.aux (D:Dic) (v a:Nat):Dic:=⟨D.bs,D.nb++[a],oO v D.nb.length D.bs D.fs,ins D.nb.length 0 D.ob⟩
def Dic.del (D:Dic) (c:Nat):Dic:=⟨D.bs,D.nb.eraseIdx c,D.fs.map (fun l=>l.eraseIdx c),D.ob.eraseIdx c⟩
def rO:List Rat->Nat->Int
 |[],_=>-1| c::cs,j=>if c≠0 then (j:Int) else rO cs (j+1)
def kF (v r:Nat) (l:List Rat):List Nat->Nat->List Rat->List Rat
 |[],_,o=>o| y::ys,j,o=>kF v r l ys (j+1) (if v<=y/\y-v<r then o.set (y-v) (l.getD j 0) else o)
def tM (v r:Nat) (nb:List Nat) (l:List Rat):List Rat:=kF v r l nb 0 (List.replicate r 0)
def zI3 (v r a : Nat) (D : Dic) (p : Nat) : Dic × Nat × Option (List Rat) × Bool :=
  match wR v (vio a) (65537 - p) D p with
  | (E, q, _, false) => (E, q, none, false)
  | (E, q, _, true) =>
    if 0 < (vio a E).getD E.nb.length 0 then (E, q, some (tM v r E.nb (vio a E)), true)
    else if 0 ≤ wO E.bs a then
      (let F := E.piv (wO E.bs a).toNat (rO ((E.fs.getD (wO E.bs a).toNat []).take E.nb.length) 0).toNat
       (F.del (wO F.nb a).toNat, q + 1, none, true))
    else (E.del (wO E.nb a).toNat, q, none, true)
def vF (v r:Nat) (D:Dic) (p:Nat):Dic×Nat×Option (List Rat)×Bool :=
 if wrs v D<0 then (D,p,none,true)
 else zI3 v r (v+r) ((D.aux v (v+r)).piv (wrs v D).toNat D.nb.length) (p+1)
def dE (v:Nat) (f:Nat->Rat):List Nat->Nat->List Rat->List Rat
 |[],_,x=>x| b::bs,i,x=>dE v f bs (i+1) (if b<v then x.set b (f i) else x)
def pnt (v:Nat) (D:Dic):List Rat:=dE v D.cst D.bs 0 (List.replicate v 0)
def cV (v:Nat) (D:Dic) (e:Nat) (k:Rat):List Rat :=
 dE v (fun i=>k*D.at i e) D.bs 0 (if D.nb.getD e 0<v then (List.replicate v 0).set (D.nb.getD e 0) k else List.replicate v 0)
inductive Pvs (D:Dic):Dic->Prop
 |refl:Pvs D D
 |step {E:Dic} {r e:Nat}:Pvs D E->r<E.bs.length->e<E.nb.length->E.at r e≠0->Pvs D (E.piv r e)
section
variable {D E F:Dic}
theorem Pvs.trans (h:Pvs D E)(g:Pvs E F):Pvs D F:=by
 induction g with
 |refl=>exact h| step _ h1 h2 h3 ih=>exact .step ih h1 h2 h3
theorem Dic.piv_bl (D:Dic)(r e:Nat):(D.piv r e).bs.length=D.bs.length:=by unfold Dic.piv;simp
theorem Dic.piv_nl (D:Dic)(r e:Nat):(D.piv r e).nb.length=D.nb.length:=by unfold Dic.piv;simp
theorem Pvs.len (h:Pvs D E):E.bs.length=D.bs.length/\E.nb.length=D.nb.length:=by
 induction h with
 |refl=>exact⟨rfl,rfl⟩| step _ h1 h2 h3 ih=>exact⟨(Dic.piv_bl _ _ _).trans ih.1,(Dic.piv_nl _ _ _).trans ih.2⟩
theorem Pvs.wf (h:Pvs D E)(hw:D.wf):E.wf:=by
 induction h with
 |refl=>exact hw| step _ h1 h2 h3 ih=>exact Dic.piv_wf ih h1 h2
theorem Pvs.same (h:Pvs D E)(hw:D.wf):Same E D:=by
 induction h with
 |refl=>exact .refl _| step g h1 h2 h3 ih=>exact (Dic.piv_same (g.wf hw) h1 h2 h3).trans ih
theorem Pvs.val (h:Pvs D E)(hw:D.wf){X:Nat->Rat}(hX:D.Sat X):E.val X=D.val X:=by
 induction h with
 |refl=>rfl| step g h1 h2 h3 ih=>exact (Dic.piv_val (g.wf hw) h1 h2 h3 (((g.same hw).sat X).2 hX)).trans ih
theorem Pvs.fit (h:Pvs D E)(hw:D.wf){k n:Nat}(hk:1<=k)(hf:D.fit k)(hn:D.nb.length<=n):E.fit (5^n*k) :=
 zDB hw (h.wf hw) (h.same hw).symm (fun X hX=>(h.val hw hX).symm) hk hf hn
end
def EntP (v:Nat) (nb:List Nat) (l:List Rat) (j:Nat) (b:Int):Prop :=
 (b<0->∀ i,i<j->v<=nb.getD i 0->¬l.getD i 0<0) /\
 (0<=b->b.toNat<j/\v<=nb.getD b.toNat 0/\l.getD b.toNat 0<0/\∀ i,i<j->v<=nb.getD i 0->l.getD i 0<0->nb.getD b.toNat 0<=nb.getD i 0)
theorem eU {v:Nat}{nb:List Nat}{l:List Rat}:∀ (ys:List Nat) (j:Nat) (b:Int),nb.drop j=ys->j<=nb.length->EntP v nb l j b->EntP v nb l nb.length (aL v nb l ys j b)
 |[],j,b,hd,hj,h=>by
  (have:j=nb.length:=by have:=congrArg List.length hd;simp at this;omega);rw[aL,<-this];exact h
 |y::ys,j,b,hd,hj,h=>by
  (have hlt:j<nb.length:=by have:=congrArg List.length hd;simp at this;omega);have hy:nb[j]?=some y:=by
   (have h1:(nb.drop j)[0]?=some y:=by rw[hd];rfl);rw[List.getElem?_drop,Nat.add_zero] at h1
   exact h1
  (have hgy:nb.getD j 0=y:=getD_some hy;have hd':nb.drop (j+1)=ys:=by rw[<-List.tail_drop,hd];rfl);rw[aL]
  refine eU ys (j+1) _ hd' hlt ?_;split;{rename_i hc;refine⟨fun hb=>absurd hb (by omega),fun _=>⟨by simp,by rw[Int.toNat_natCast,hgy];exact hc.1,by rw[Int.toNat_natCast];exact hc.2.1,fun i hi h1 h2=>?_⟩⟩;rw[Int.toNat_natCast,hgy];by_cases e:i=j;{rw[e,hgy];exact Nat.le_refl _};{rcases hc.2.2 with hb|hb;{exact absurd h2 (h.1 hb i (by omega) h1)};{by_cases hbn:b<0;{exact absurd h2 (h.1 hbn i (by omega) h1)};{have:=(h.2 (by omega)).2.2.2 i (by omega) h1 h2;omega}}}};{rename_i hc;refine⟨fun hb i hi h1 h2=>?_,fun hb=>?_⟩;{by_cases e:i=j;{subst e;rw[hgy] at h1;exact hc ⟨h1,h2,.inl hb⟩};{exact h.1 hb i (by omega) h1 h2}};{obtain⟨k1,k2,k3,k4⟩:=h.2 hb;refine⟨by omega,k2,k3,fun i hi h1 h2=>?_⟩;by_cases e:i=j;{subst e;rw[hgy] at h1 ⊢;exact Nat.le_of_not_lt fun q=>hc ⟨h1,h2,.inr q⟩};{exact k4 i (by omega) h1 h2}}}
theorem eS (v:Nat)(nb:List Nat)(l:List Rat):EntP v nb l nb.length (ent v nb l) :=
 eU nb 0 (-1) rfl (Nat.zero_le _) ⟨fun _ i hi=>absurd hi (by omega),fun h=>absurd h (by decide)⟩
def LvP (v e:Nat) (D:Dic) (j:Nat) (b:Int) (q:Rat):Prop :=
 (b<0->∀ i,i<j->v<=D.bs.getD i 0->¬D.at i e<0) /\
 (0<=b->b.toNat<j/\v<=D.bs.getD b.toNat 0/\D.at b.toNat e<0/\q=D.cst b.toNat / -(D.at b.toNat e) /\
  ∀ i,i<j->v<=D.bs.getD i 0->D.at i e<0->q<D.cst i / -(D.at i e)\/(q=D.cst i / -(D.at i e)/\D.bs.getD b.toNat 0<=D.bs.getD i 0))
theorem sA {v e:Nat}{D:Dic}:∀ (ys:List Nat) (j:Nat) (b:Int) (q:Rat),D.bs.drop j=ys->j<=D.bs.length->LvP v e D j b q->∃ q',LvP v e D D.bs.length (lvGo v e D ys j b q) q'
 |[],j,b,q,hd,hj,h=>by
  (have:j=D.bs.length:=by have:=congrArg List.length hd;simp at this;omega);rw[lvGo,<-this];exact⟨q,h⟩
 |y::ys,j,b,q,hd,hj,h=>by
  (have hlt:j<D.bs.length:=by have:=congrArg List.length hd;simp at this;omega);have hy:D.bs[j]?=some y:=by
   (have h1:(D.bs.drop j)[0]?=some y:=by rw[hd];rfl);rw[List.getElem?_drop,Nat.add_zero] at h1
   exact h1
  (have hgy:D.bs.getD j 0=y:=getD_some hy;have hd':D.bs.drop (j+1)=ys:=by rw[<-List.tail_drop,hd];rfl);rw[lvGo]
  split;{rename_i hc;split;{rename_i hs;refine sA ys (j+1) _ _ hd' hlt ⟨fun hb=>absurd hb (by omega),fun _=>⟨by simp,by rw[Int.toNat_natCast,hgy];exact hc.1,by rw[Int.toNat_natCast];exact hc.2,by rw[Int.toNat_natCast],fun i hi h1 h2=>?_⟩⟩;rw[Int.toNat_natCast,hgy];by_cases e':i=j;{rw[e',hgy];exact .inr ⟨rfl,Nat.le_refl _⟩};{by_cases hbn:b<0;{exact absurd h2 (h.1 hbn i (by omega) h1)};{have hk:=(h.2 (by omega)).2.2.2.2 i (by omega) h1 h2;rcases hs with hs|hs|hs;{omega};{rcases hk with hk|hk;{exact .inl (by grind)};{exact .inl (by grind)}};{rcases hk with hk|hk;{exact .inl (by grind)};{exact .inr ⟨by grind,by have:=hk.2;omega⟩}}}}};{rename_i hs;refine sA ys (j+1) _ _ hd' hlt ⟨fun hb=>absurd (.inl hb) hs,fun hb=>?_⟩;obtain⟨k1,k2,k3,k4,k5⟩:=h.2 hb;refine⟨by omega,k2,k3,k4,fun i hi h1 h2=>?_⟩;by_cases e':i=j;{subst e';rw[hgy];have h3:¬D.cst i / -(D.at i e)<q:=fun w=>hs (.inr (.inl w));by_cases h4:q=D.cst i / -(D.at i e);{exact .inr ⟨h4,Nat.le_of_not_lt fun w=>hs (.inr (.inr ⟨h4.symm,w⟩))⟩};{exact .inl (by grind)}};{exact k5 i (by omega) h1 h2}}};{rename_i hc;refine sA ys (j+1) _ _ hd' hlt ⟨fun hb i hi h1 h2=>?_,fun hb=>?_⟩;{by_cases e':i=j;{subst e';rw[hgy] at h1;exact hc ⟨h1,h2⟩};{exact h.1 hb i (by omega) h1 h2}};{obtain⟨k1,k2,k3,k4,k5⟩:=h.2 hb;refine⟨by omega,k2,k3,k4,fun i hi h1 h2=>?_⟩;by_cases e':i=j;{subst e';rw[hgy] at h1;exact absurd ⟨h1,h2⟩ hc};{exact k5 i (by omega) h1 h2}}}
theorem i9 (v e:Nat)(D:Dic):∃ q,LvP v e D D.bs.length (lvR v e D) q :=
 sA D.bs 0 (-1) 0 rfl (Nat.zero_le _) ⟨fun _ i hi=>absurd hi (by omega),fun h=>absurd h (by decide)⟩
theorem c9 {v:Nat}{nb:List Nat}{l:List Rat}(h:0<=ent v nb l):(ent v nb l).toNat<nb.length/\v<=nb.getD (ent v nb l).toNat 0/\l.getD (ent v nb l).toNat 0<0:=by have:=(eS v nb l).2 h;exact⟨this.1,this.2.1,this.2.2.1⟩
theorem zBS {v e:Nat}{D:Dic}(h:0<=lvR v e D):(lvR v e D).toNat<D.bs.length/\v<=D.bs.getD (lvR v e D).toNat 0/\D.at (lvR v e D).toNat e<0:=by obtain⟨q,hq⟩:=i9 v e D;have:=hq.2 h;exact⟨this.1,this.2.1,this.2.2.1⟩
theorem zEJ {v:Nat}{D:Dic}{l:List Rat}(h1:0<=ent v D.nb l)(h2:0<=lvR v (ent v D.nb l).toNat D):BStep (fun y=>decide (y<v)) D l (lvR v (ent v D.nb l).toNat D).toNat (ent v D.nb l).toNat:=by obtain⟨a1,a2,a3,a4⟩:=(eS v D.nb l).2 h1;obtain⟨q,hq⟩:=i9 v (ent v D.nb l).toNat D;obtain⟨b1,b2,b3,b4,b5⟩:=hq.2 h2;refine⟨b1,a1,by simpa using a2,a3,fun j hj hf h=>a4 j hj (by simpa using hf) h,by simpa using b2,b3,fun i hi hf h=>?_,fun i hi hf h he=>?_⟩;{rw[<-b4];rcases b5 i hi (by simpa using hf) h with w|w;{exact Rat.le_of_lt w};{rw[w.1];exact Rat.le_refl}};{rw[<-b4] at he;rcases b5 i hi (by simpa using hf) h with w|w;{rw[he] at w;exact absurd w (Rat.lt_irrefl)};{exact w.2}}
theorem eT {v:Nat}{nb:List Nat}{l:List Rat}(h:ent v nb l<0){j:Nat}(hj:j<nb.length)(hv:v<=nb.getD j 0):0<=l.getD j 0:=Rat.not_lt.1 ((eS v nb l).1 h j hj hv)
theorem eA {v e:Nat}{D:Dic}(h:lvR v e D<0){i:Nat}(hi:i<D.bs.length)(hv:v<=D.bs.getD i 0):0<=D.at i e:=by obtain⟨q,hq⟩:=i9 v e D;exact Rat.not_lt.1 (hq.1 h i hi hv)
theorem rR {x:Nat}:∀ (l:List Nat) (i:Nat),(0<=bK x l i->i<=(bK x l i).toNat/\l[(bK x l i).toNat-i]?=some x)/\(x∈l->0<=bK x l i)
 |[],i=>⟨fun h=>absurd h (by rw[bK];decide),fun h=>by cases h⟩| y::ys,i=>by
  rw[bK];split;{rename_i h;exact⟨fun _=>⟨by simp,by simp[h]⟩,fun _=>by omega⟩}
  ·rename_i h;have ih:=rR (x:=x) ys (i+1);refine⟨fun h0=>?_,fun hm=>ih.2 (by
    rcases List.mem_cons.1 hm with e|e;{exact absurd e h}
    ·exact e)⟩
   have:=ih.1 h0;refine⟨by omega,?_⟩;rw[show (bK x ys (i+1)).toNat-i=((bK x ys (i+1)).toNat-(i+1))+1 by omega,List.getElem?_cons_succ];exact this.2
theorem wT {l:List Nat}{x:Nat}(h:0<=wO l x):l[(wO l x).toNat]?=some x:=by have:=(rR (x:=x) l 0).1 h;exact this.2
theorem wS {l:List Nat}{x:Nat}(h:x∈l):0<=wO l x:=(rR (x:=x) l 0).2 h
theorem zDU {l:List Nat}{x:Nat}(h:x∉l):wO l x<0:=Int.not_le.1 fun q=>h (List.mem_of_getElem? (wT q))
abbrev frV (v:Nat):Nat->Bool:=fun y=>decide (y<v)
def zOI (v:Nat) (z:(Nat->Rat)->Rat) (ln:Dic->List Rat) (D0 D:Dic) (n:Nat):Prop :=
 ∃ (Ds:Nat->Dic) (ls:Nat->List Rat) (rs es:Nat->Nat),BRun (frV v) z Ds ls rs es n/\Ds 0=D0/\Ds n=D/\ls n=ln D
structure MiniOk (v:Nat) (z:(Nat->Rat)->Rat) (ln:Dic->List Rat) (D0:Dic) (p0:Nat) (M:Dic×Nat×Int×Bool):Prop where
 run:∃ n,zOI v z ln D0 M.1 n/\M.2.1=p0+n
 pvs:Pvs D0 M.1
 ok:M.2.2.2=true->M.2.1<=65536/\((M.2.2.1=-1/\ent v M.1.nb (ln M.1)<0)\/(0<=M.2.2.1/\M.2.2.1=ent v M.1.nb (ln M.1)/\lvR v M.2.2.1.toNat M.1<0))
 no:M.2.2.2=false->65536<M.2.1
theorem i4 {v:Nat}{z:(Nat->Rat)->Rat}{ln:Dic->List Rat}{D0:Dic}{p0:Nat}(hw:D0.wf)(hz:∀ F,Pvs D0 F->∀ X,F.Sat X->z X=dot X F.nb (ln F)):∀ (f:Nat) (D:Dic) (p n:Nat),f=65537-p->Pvs D0 D->zOI v z ln D0 D n->p=p0+n->MiniOk v z ln D0 p0 (wR v ln f D p)
 |0,D,p,n,hf,hp,hr,hn=>by rw[wR];exact⟨⟨n,hr,hn⟩,hp,fun h=>absurd (of_decide_eq_true h) (by omega),fun _=>by show 65536<p;omega⟩| f+1,D,p,n,hf,hp,hr,hn=>by
  (have hq:p<=65536:=by omega);rw[wR,if_pos hq]
  split;{rename_i h1;exact⟨⟨n,hr,hn⟩,hp,fun _=>⟨hq,.inl ⟨rfl,h1⟩⟩,fun h=>by cases h⟩}
  ·rename_i h1;split;{rename_i h2;exact⟨⟨n,hr,hn⟩,hp,fun _=>⟨hq,.inr ⟨by show 0<=ent v D.nb (ln D);omega,rfl,h2⟩⟩,fun h=>by cases h⟩}
   ·(rename_i h2;obtain⟨Ds,ls,rs,es,hB,e0,en,el⟩:=hr;have hs:=zEJ (v:=v) (D:=D) (l:=ln D) (by omega) (by omega);have hne:D.at (lvR v (ent v D.nb (ln D)).toNat D).toNat (ent v D.nb (ln D)).toNat≠0:=by have:=hs.rneg;grind);have hp':Pvs D0 (D.piv (lvR v (ent v D.nb (ln D)).toNat D).toNat (ent v D.nb (ln D)).toNat):=.step hp hs.hr hs.he hne
    (refine i4 hw hz f _ (p+1) (n+1) (by omega) hp' ?_ (by omega);have hs':BStep (frV v) (Ds n) (ls n) (lvR v (ent v D.nb (ln D)).toNat D).toNat (ent v D.nb (ln D)).toNat:=by rw[en,el];exact hs);have hB':=hB.snoc hs' (l':=ln (D.piv (lvR v (ent v D.nb (ln D)).toNat D).toNat (ent v D.nb (ln D)).toNat)) (fun X hX=>by rw[en] at hX ⊢;exact hz _ hp' X hX)
    refine⟨_,_,_,_,hB',?_,?_,?_⟩;{show (if 0<=n then Ds 0 else _)=D0;rw[if_pos (Nat.zero_le _)];exact e0};{show (if n+1<=n then Ds (n+1) else _)=_;rw[if_neg (by omega),en]};{show (if n+1<=n then ls (n+1) else _)=_;rw[if_neg (by omega)]}
theorem zAM {v:Nat}{z:(Nat->Rat)->Rat}{ln:Dic->List Rat}{D0:Dic}{p0 M:Nat}(hw:D0.wf)(hfe:D0.feas (frV v))(hz:∀ F,Pvs D0 F->∀ X,F.Sat X->z X=dot X F.nb (ln F)) (hM:∀ y,y∈D0.bs\/y∈D0.nb->y<v+M) (hp:p0+2^M<=65537):MiniOk v z ln D0 p0 (wR v ln (65537-p0) D0 p0)/\(wR v ln (65537-p0) D0 p0).2.2.2=true/\(wR v ln (65537-p0) D0 p0).1.feas (frV v)/\(wR v ln (65537-p0) D0 p0).2.1+1<=p0+2^M:=by
 have hm:=i4 (p0:=p0) hw hz (65537-p0) D0 p0 0 rfl .refl ⟨_,_,_,_,BRun.zero hw hfe (fun X hX=>hz D0 .refl X hX),rfl,rfl,rfl⟩ rfl;generalize wR v ln (65537-p0) D0 p0=R at *
 obtain⟨n,⟨Ds,ls,rs,es,hB,e0,en,el⟩,hn⟩:=hm.run;have hfew:=hB.few (base:=v) (M:=M) (fun y hy hf=>by
  (rw[e0] at hy;have h1:=hM y hy;have h2:¬y<v:=by simpa[frV] using hf);exact⟨by omega,h1⟩)
 refine⟨hm,?_,fun j hj hf=>?_,by omega⟩
 ·cases hb:R.2.2.2 with
  |true=>rfl| false=>have:=hm.no hb;omega
 {rw[<-en] at hj hf ⊢;exact hB.feas n (Nat.le_refl _) j hj hf}
theorem mH {old:List Rat}{e j:Nat}(hj:j<old.length)(he:e<old.length):(vE old e).getD j 0=if j=e then 1/old.getD e 0 else -(old.getD j 0)/old.getD e 0:=by unfold vE;rw[List.getD_eq_getElem?_getD,List.getElem?_set];by_cases h:e=j;{subst h;rw[if_pos rfl,if_pos (by rw[List.length_map];exact he),if_pos rfl];rfl};{rw[if_neg h,if_neg (fun q=>h q.symm),List.getElem?_map,List.getElem?_eq_getElem hj];rw[List.getD_eq_getElem?_getD (i:=j),List.getElem?_eq_getElem hj];rfl}
theorem zGM {l form:List Rat}{e j:Nat}(hl:l.length=form.length)(hj:j<l.length):(sbs l e form).getD j 0=(if j=e then 0 else l.getD j 0)+l.getD e 0*form.getD j 0:=by unfold sbs;rw[tX _ _ _ _ (by rw[List.length_set];exact hl)];congr 1;rw[List.getD_eq_getElem?_getD,List.getElem?_set];by_cases h:e=j;{subst h;rw[if_pos rfl,if_pos hj,if_pos rfl];rfl};{rw[if_neg h,if_neg (fun q=>h q.symm),List.getD_eq_getElem?_getD]}
section
variable {D:Dic} {r e:Nat}
theorem Dic.piv_bs_get (hr:r<D.bs.length){i:Nat}:(D.piv r e).bs.getD i 0=if i=r then D.nb.getD e 0 else D.bs.getD i 0:=by show (D.bs.set r (D.nb.getD e 0)).getD i 0=_;rw[List.getD_eq_getElem?_getD,List.getElem?_set];by_cases h:r=i;{subst h;rw[if_pos rfl,if_pos hr,if_pos rfl];rfl};{rw[if_neg h,if_neg (fun q=>h q.symm),List.getD_eq_getElem?_getD]}
theorem Dic.piv_nb_get (he:e<D.nb.length){j:Nat}:(D.piv r e).nb.getD j 0=if j=e then D.bs.getD r 0 else D.nb.getD j 0:=by show (D.nb.set e (D.bs.getD r 0)).getD j 0=_;rw[List.getD_eq_getElem?_getD,List.getElem?_set];by_cases h:e=j;{subst h;rw[if_pos rfl,if_pos he,if_pos rfl];rfl};{rw[if_neg h,if_neg (fun q=>h q.symm),List.getD_eq_getElem?_getD]}
theorem Dic.row_len (h:D.wf){i:Nat}(hi:i<D.bs.length):(D.fs.getD i []).length=D.nb.length+1:=by obtain⟨l,hl⟩:=zT (l:=D.fs) (i:=i) (by rw[h.len];exact hi);rw[getD_some hl];exact h.row i l hl
theorem Dic.piv_at_r (h:D.wf)(hr:r<D.bs.length)(he:e<D.nb.length){j:Nat}(hj:j<=D.nb.length):(D.piv r e).at r j=if j=e then 1/D.at r e else -(D.at r j)/D.at r e:=by
 have hl:=Dic.row_len h hr;obtain⟨l,hlr⟩:=zT (l:=D.fs) (i:=r) (by rw[h.len];exact hr);have e1:(D.piv r e).fs.getD r []=vE (D.fs.getD r []) e:=by show (bO r e _ 0 D.fs).getD r []=_;rw[List.getD_eq_getElem?_getD,j1,hlr,Nat.zero_add];simp
 unfold Dic.at
 rw[e1];exact mH (by omega) (by omega)
theorem Dic.piv_at (h:D.wf)(hr:r<D.bs.length)(he:e<D.nb.length){i j:Nat}(hi:i<D.bs.length)(hir:i≠r)(hj:j<=D.nb.length):(D.piv r e).at i j=(if j=e then 0 else D.at i j)+D.at i e*(if j=e then 1/D.at r e else -(D.at r j)/D.at r e):=by
 have hl:=Dic.row_len h hr;have hli:=Dic.row_len h hi;obtain⟨l,hlr⟩:=zT (l:=D.fs) (i:=i) (by rw[h.len];exact hi);have e1:(D.piv r e).fs.getD i []=sbs (D.fs.getD i []) e (vE (D.fs.getD r []) e):=by show (bO r e _ 0 D.fs).getD i []=_;rw[List.getD_eq_getElem?_getD,j1,hlr,Nat.zero_add,getD_some hlr];simp[hir]
 unfold Dic.at
 rw[e1,zGM (by rw[gQ];omega) (by omega),mH (by omega) (by omega)]
theorem Dic.piv_ob (h:D.wf)(hr:r<D.bs.length)(he:e<D.nb.length){j:Nat}(hj:j<=D.nb.length):(D.piv r e).ob.getD j 0=(if j=e then 0 else D.ob.getD j 0)+D.ob.getD e 0*(if j=e then 1/D.at r e else -(D.at r j)/D.at r e):=by have hl:=Dic.row_len h hr;have:=h.ob;show (sbs D.ob e (vE (D.fs.getD r []) e)).getD j 0=_;rw[zGM (by rw[gQ];omega) (by omega),mH (by omega) (by omega)];rfl
end
def Dic.rel0 (v m:Nat) (D:Dic):Prop:=∀ e,e<m->e<D.nb.length->D.nb.getD e 0<v->∀ i,i<D.bs.length->v<=D.bs.getD i 0->D.at i e=0
theorem Dic.rel0_piv {v m r e:Nat}{D:Dic}(h:D.wf)(hr:r<D.bs.length)(he:e<D.nb.length)(hrv:v<=D.bs.getD r 0)(h0:D.rel0 v m):(D.piv r e).rel0 v m:=by intro j hjm hj hjv i hi hiv;rw[Dic.piv_nl] at hj;rw[Dic.piv_bl] at hi;rw[Dic.piv_nb_get he] at hjv;rw[Dic.piv_bs_get hr] at hiv;by_cases hje:j=e;{rw[if_pos hje] at hjv;omega};{rw[if_neg hje] at hjv;have hrj:=h0 j hjm hj hjv r hr hrv;by_cases hir:i=r;{subst hir;rw[Dic.piv_at_r h hr he (by omega),if_neg hje,hrj,Rat.neg_zero,Rat.div_def,Rat.zero_mul]};{rw[if_neg hir] at hiv;rw[Dic.piv_at h hr he hi hir (by omega),if_neg hje,if_neg hje,hrj,h0 j hjm hj hjv i hi hiv,Rat.neg_zero,Rat.div_def,Rat.zero_mul,Rat.mul_zero,Rat.add_zero]}}
theorem iK {v e:Nat}{D:Dic}:∀ {bs:List Nat} {i:Nat},D.bs.drop i=bs->sZ v e D bs i=none->∀ k,i<=k->k<D.bs.length->v<=D.bs.getD k 0->D.at k e=0
 |[],i,hd,h,k,hik,hk,hv=>by have:=congrArg List.length hd;simp at this;omega| b::bs,i,hd,h,k,hik,hk,hv=>by
  rw[sZ] at h;have hb:D.bs[i]?=some b:=by
   (have h1:(D.bs.drop i)[0]?=some b:=by rw[hd];rfl);rw[List.getElem?_drop,Nat.add_zero] at h1
   exact h1
  split at h;{cases h};{rename_i hc;by_cases hki:k=i;{subst hki;rw[getD_some hb] at hv;exact Classical.byContradiction fun q=>hc ⟨hv,q⟩};{exact iK (by rw[<-List.tail_drop,hd];rfl) h k (by omega) hk hv}}
theorem iJ {v e:Nat}{D:Dic}:∀ {bs:List Nat} {i k:Nat},D.bs.drop i=bs->sZ v e D bs i=some k->k<D.bs.length/\v<=D.bs.getD k 0/\D.at k e≠0
 |[],i,k,hd,h=>by cases h
 |b::bs,i,k,hd,h=>by
  rw[sZ] at h;have hb:D.bs[i]?=some b:=by
   (have h1:(D.bs.drop i)[0]?=some b:=by rw[hd];rfl);rw[List.getElem?_drop,Nat.add_zero] at h1
   exact h1
  split at h;{rename_i hc;cases h;exact⟨yK hb,by rw[getD_some hb];exact hc.1,hc.2⟩};{exact iJ (by rw[<-List.tail_drop,hd];rfl) h}
theorem dY {v:Nat}{D:Dic}(hw:D.wf):∀ (ys:List Nat) (e:Nat) (s:Dic×Nat),s.1.nb.drop e=ys->e<=s.1.nb.length->Pvs D s.1->s.1.rel0 v e ->Pvs D (rel v ys e s).1/\(rel v ys e s).1.rel0 v s.1.nb.length/\(rel v ys e s).2<=s.2+ys.length
 |[],e,s,hd,he,hp,h0=>by
  (have:e=s.1.nb.length:=by have:=congrArg List.length hd;simp at this;omega);rw[rel,<-this];exact⟨hp,h0,by simp⟩
 |y::ys,e,s,hd,he,hp,h0=>by
  (have hlt:e<s.1.nb.length:=by have:=congrArg List.length hd;simp at this;omega);have hy:s.1.nb[e]?=some y:=by
   (have h1:(s.1.nb.drop e)[0]?=some y:=by rw[hd];rfl);rw[List.getElem?_drop,Nat.add_zero] at h1
   exact h1
  (have hd':s.1.nb.drop (e+1)=ys:=by rw[<-List.tail_drop,hd];rfl);have hw':=hp.wf hw
  rw[rel];split
  ·rename_i hyv;unfold relS;split
   ·rename_i i hi;obtain⟨k1,k2,k3⟩:=iJ (bs:=s.1.bs) (i:=0) rfl hi;have hp':Pvs D (s.1.piv i e):=.step hp k1 hlt k3;have h0':=Dic.rel0_piv hw' k1 hlt k2 h0;have ih:=dY hw ys (e+1) (s.1.piv i e,s.2+1) (by
     show (s.1.nb.set e _).drop (e+1)=ys;rw[<-hd'];apply List.ext_getElem?;intro j;rw[List.getElem?_drop,List.getElem?_drop,List.getElem?_set_ne (by omega)]) (by show e+1<=(s.1.piv i e).nb.length;rw[Dic.piv_nl];exact hlt) hp' (by
     intro j hj hjl hjv k hk hkv;by_cases hje:j=e;{have h2:(s.1.piv i e).nb.getD j 0<v:=hjv;rw[Dic.piv_nb_get hlt,if_pos hje] at h2;omega}
     ·exact h0' j (by omega) hjl hjv k hk hkv)
    have hl:(s.1.piv i e).nb.length=s.1.nb.length:=Dic.piv_nl _ _ _;refine⟨ih.1,by rw[<-hl];exact ih.2.1,?_⟩;have:=ih.2.2;simp only[List.length_cons] at this ⊢;omega
   ·rename_i hi;have ih:=dY hw ys (e+1) (s.1,s.2) hd' hlt hp (by
     intro j hj hjl hjv k hk hkv;by_cases hje:j=e;{subst hje;exact iK (bs:=s.1.bs) (i:=0) rfl hi k (Nat.zero_le _) hk hkv}
     ·exact h0 j (by omega) hjl hjv k hk hkv)
    refine⟨ih.1,ih.2.1,?_⟩;have:=ih.2.2;simp only[List.length_cons] at this ⊢;omega
  ·rename_i hyv;have ih:=dY hw ys (e+1) s hd' hlt hp (by
    intro j hj hjl hjv k hk hkv;by_cases hje:j=e;{subst hje;rw[getD_some hy] at hjv;exact absurd hjv hyv}
    ·exact h0 j (by omega) hjl hjv k hk hkv)
   refine⟨ih.1,ih.2.1,?_⟩;have:=ih.2.2;simp only[List.length_cons] at this ⊢;omega
end Go.Proofs.YtfainocfaddbdaaGreat
