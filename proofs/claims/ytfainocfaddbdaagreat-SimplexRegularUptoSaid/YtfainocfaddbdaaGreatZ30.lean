/- A part of the proof: SxJ, SxK, SxL. -/
import Derived.Test.YtfainocfaddbdaaGreatZ29
set_option linter.all false
namespace Go.Proofs.YtfainocfaddbdaaGreat
open Go
def j8:List Rat->(Nat->Rat)->Rat
 |[],_=>0| q::qs,f=>q*f 0+j8 qs (fun k=>f (k+1))
theorem zC2:∀ {l:List Rat} {k:Nat} {q:Rat} {f:Nat->Rat},k<l.length->j8 (l.set k q) f=j8 l f-l.getD k 0*f k+q*f k
 |x::l,0,q,f,h=>by simp only[List.set_cons_zero,j8,List.getD_cons_zero];grind| x::l,k+1,q,f,h=>by simp only[List.set_cons_succ,j8,List.getD_cons_succ];rw[zC2 (by simpa using h)];grind
theorem zAD:∀ {n:Nat} {f:Nat->Rat},j8 (List.replicate n 0) f=0
 |0,f=>rfl| n+1,f=>by rw[List.replicate_succ,j8,zAD];grind
theorem eW {v r:Nat}{l:List Rat}:∀ {ys:List Nat} {j:Nat} {o:List Rat},(kF v r l ys j o).length=o.length
 |[],_,_=>rfl| y::ys,j,o=>by rw[kF,eW];split <;> simp
theorem cJ {v r:Nat}{nb:List Nat}{l:List Rat}:(tM v r nb l).length=r:=by unfold tM;rw[eW,List.length_replicate]
theorem rW {v r:Nat}{l:List Rat}{X:Nat->Rat}:∀ {ys:List Nat} {j:Nat} {o:List Rat},ys.Nodup->o.length=r->(∀ k,k<r->v+k∈ys->o.getD k 0=0) ->(∀ i,i<ys.length->¬(v<=ys.getD i 0/\ys.getD i 0-v<r)->l.getD (j+i) 0=0\/X (ys.getD i 0)=0) ->j8 (kF v r l ys j o) (fun k=>X (v+k))+l.getD (j+ys.length) 0=j8 o (fun k=>X (v+k))+dot X ys (l.drop j)
 |[],j,o,hn,ho,hz,hc=>by rw[kF];congr 1;unfold dot;rw[List.headD_eq_head?_getD,List.head?_drop,List.getD_eq_getElem?_getD];rfl
 |y::ys,j,o,hn,ho,hz,hc=>by
  have hny:=(List.nodup_cons.1 hn);have hdot:dot X (y::ys) (l.drop j)=l.getD j 0*X y+dot X ys (l.drop (j+1)):=by rw[dot];congr 1;{rw[List.headD_eq_head?_getD,List.head?_drop,List.getD_eq_getElem?_getD]};{rw[List.tail_drop]}
  (have hlen:j+(y::ys).length=(j+1)+ys.length:=by simp only[List.length_cons];omega);rw[kF,hdot,hlen]
  (have hc':∀ i,i<ys.length->¬(v<=ys.getD i 0/\ys.getD i 0-v<r)->l.getD (j+1+i) 0=0\/X (ys.getD i 0)=0:=fun i hi h=>by have:=hc (i+1) (by simp only[List.length_cons];omega) (by rw[List.getD_cons_succ];exact h);rw[List.getD_cons_succ] at this;rw[show j+1+i=j+(i+1) by omega];exact this);split
  {rename_i h;have ih:=rW (v:=v) (r:=r) (l:=l) (X:=X) (ys:=ys) (j:=j+1) (o:=o.set (y-v) (l.getD j 0)) hny.2 (by rw[List.length_set];exact ho) (fun k hk hm=>by have hne:y-v≠k:=fun e=>hny.1 (by rw[show y=v+k by omega];exact hm);rw[List.getD_eq_getElem?_getD,List.getElem?_set_ne hne,<-List.getD_eq_getElem?_getD];exact hz k hk (List.mem_cons_of_mem _ hm)) hc';rw[ih,zC2 (by omega),hz (y-v) h.2 (by rw[show v+(y-v)=y by omega];exact List.mem_cons_self),show v+(y-v)=y by omega];grind};{rename_i h;have ih:=rW (v:=v) (r:=r) (l:=l) (X:=X) (ys:=ys) (j:=j+1) (o:=o) hny.2 ho (fun k hk hm=>hz k hk (List.mem_cons_of_mem _ hm)) hc';rw[ih];have:=hc 0 (by simp) (by rw[List.getD_cons_zero];exact h);rw[List.getD_cons_zero,Nat.add_zero] at this;rcases this with q|q <;> rw[q] <;> grind}
theorem eZ {v r:Nat}{nb:List Nat}{l:List Rat}{X:Nat->Rat}(hn:nb.Nodup)(hc:∀ i,i<nb.length->¬(v<=nb.getD i 0/\nb.getD i 0-v<r)->l.getD i 0=0\/X (nb.getD i 0)=0):dot X nb l=j8 (tM v r nb l) (fun k=>X (v+k))+l.getD nb.length 0:=by have:=rW (v:=v) (r:=r) (l:=l) (X:=X) (ys:=nb) (j:=0) (o:=List.replicate r 0) hn (by simp) (fun k hk _=>by rw[List.getD_eq_getElem?_getD,List.getElem?_replicate];split <;> rfl) (fun i hi h=>by rw[Nat.zero_add];exact hc i hi h);rw[zAD,Nat.zero_add,List.drop_zero] at this;unfold tM;rw[this];grind
theorem zA3 {v r:Nat}{l:List Rat}:∀ {ys:List Nat} {j:Nat} {o:List Rat},(∀ c,c∈o->0<=c)->(∀ i,i<ys.length->v<=ys.getD i 0->0<=l.getD (j+i) 0)->∀ c,c∈kF v r l ys j o->0<=c
 |[],j,o,ho,hl=>ho| y::ys,j,o,ho,hl=>by
  (rw[kF];refine zA3 (j:=j+1) ?_ fun i hi hv=>by have:=hl (i+1) (by simp only[List.length_cons];omega) (by rw[List.getD_cons_succ];exact hv);rw[show j+1+i=j+(i+1) by omega];exact this);split
  {rename_i h;intro c hc;rcases List.mem_or_eq_of_mem_set hc with q|q;{exact ho c q};{rw[q];have:=hl 0 (by simp) (by rw[List.getD_cons_zero];exact h.1);rwa [Nat.add_zero] at this}};{exact ho}
theorem zBZ {v r:Nat}{nb:List Nat}{l:List Rat}(hl:∀ i,i<nb.length->v<=nb.getD i 0->0<=l.getD i 0):∀ c,c∈tM v r nb l->0<=c :=
 zA3 (fun c hc=>by rw[List.eq_of_mem_replicate hc];exact Rat.le_refl) fun i hi hv=>by rw[Nat.zero_add];exact hl i hi hv
theorem n8 {c:Nat}{x:Rat}{l:List Rat}(h:c<=l.length):(ins c x l).length=l.length+1:=by unfold ins;simp;omega
theorem zNB {c:Nat}{x:Rat}{l:List Rat}(h:c<=l.length)(j:Nat):(ins c x l).getD j 0=if j<c then l.getD j 0 else if j=c then x else l.getD (j-1) 0:=by
 unfold ins;have ht:(l.take c).length=c:=by rw[List.length_take];omega
 rw[List.getD_eq_getElem?_getD];by_cases h1:j<c;{rw[if_pos h1,List.getElem?_append_left (by omega),List.getElem?_take_of_lt h1,List.getD_eq_getElem?_getD]};{rw[if_neg h1,List.getElem?_append_right (by omega),ht];by_cases h2:j=c;{rw[if_pos h2,h2,Nat.sub_self];rfl};{rw[if_neg h2,show j-c=(j-c-1)+1 by omega,List.getElem?_cons_succ,List.getElem?_drop,List.getD_eq_getElem?_getD];congr 2;omega}}
theorem lE {X:Nat->Rat}{a:Nat}{x:Rat}:∀ {nb:List Nat} {l:List Rat},l.length=nb.length+1->dot X (nb++[a]) (ins nb.length x l)=dot X nb l+x*X a
 |[],l,h=>by
  cases l with
  |nil=>simp at h| cons c l=>simp only[List.nil_append,List.length_nil,ins,List.take_zero,List.drop_zero,dot,List.headD_cons,List.tail_cons];grind
 |v::vs,l,h=>by
  cases l with
  |nil=>simp at h| cons c l =>
   have ih:=lE (X:=X) (a:=a) (x:=x) (nb:=vs) (l:=l) (by simpa using h);unfold ins at ih;simp only[List.cons_append,List.length_cons,ins,List.take_succ_cons,List.drop_succ_cons,dot,List.headD_cons,List.tail_cons];rw[ih];grind
theorem oM {v c:Nat}:∀ {bs:List Nat} {ls:List (List Rat)},ls.length=bs.length->(oO v c bs ls).length=bs.length
 |[],[],_=>rfl| [],_::_,h=>by simp at h| _::_,[],h=>by simp at h| b::bs,l::ls,h=>by rw[oO,List.length_cons,oM (by simpa using h)];rfl
theorem oN {v c:Nat}:∀ {bs:List Nat} {ls:List (List Rat)} {i b:Nat} {l:List Rat},bs[i]?=some b->ls[i]?=some l->(oO v c bs ls)[i]?=some (ins c (if b<v then 0 else 1) l)
 |[],ls,i,b,l,h,_=>by simp at h| _::_,[],i,b,l,_,h=>by simp at h| b'::bs,l'::ls,0,b,l,h1,h2=>by simp only[List.getElem?_cons_zero,Option.some.injEq] at h1 h2;subst h1 h2;rfl
 |b'::bs,l'::ls,i+1,b,l,h1,h2=>by simp only[List.getElem?_cons_succ] at h1 h2;rw[oO,List.getElem?_cons_succ];exact oN h1 h2
section
variable {D:Dic} {v a:Nat}
theorem Dic.aux_row (h:D.wf){i b:Nat}{l:List Rat}(hb:D.bs[i]?=some b)(hl:D.fs[i]?=some l):(D.aux v a).fs[i]?=some (ins D.nb.length (if b<v then 0 else 1) l):=oN hb hl
theorem Dic.aux_fl (h:D.wf):(D.aux v a).fs.length=D.bs.length:=oM h.len
theorem Dic.aux_wf (h:D.wf)(h1:a∉D.bs)(h2:a∉D.nb):(D.aux v a).wf where
 len:=Dic.aux_fl h
 row i l hl:=by
  (have hi:i<D.bs.length:=by rw[<-Dic.aux_fl (v:=v) (a:=a) h];exact yK hl);obtain⟨b,hb⟩:=zT hi
  obtain⟨l0,hl0⟩:=zT (l:=D.fs) (i:=i) (by rw[h.len];exact hi);rw[Dic.aux_row h hb hl0] at hl;cases hl;have:=h.row i l0 hl0;rw[n8 (by omega),this];show _=(D.nb++[a]).length+1;simp
 ob:=by have:=h.ob;show (ins D.nb.length 0 D.ob).length=(D.nb++[a]).length+1;rw[n8 (by omega),this];simp
 nd:=by show (D.bs++(D.nb++[a])).Nodup;rw[<-List.append_assoc,List.nodup_append];refine⟨h.nd,by simp,fun x hx y hy e=>?_⟩;simp at hy;subst hy e;rcases List.mem_append.1 hx with q|q;{exact h1 q};{exact h2 q}
theorem Dic.aux_sat (h:D.wf){X:Nat->Rat}:(D.aux v a).Sat X↔∀ (i:Nat) b l,D.bs[i]?=some b->D.fs[i]?=some l->X b=dot X D.nb l+(if b<v then 0 else 1)*X a:=by constructor;{intro hs i b l hb hl;rw[hs i b _ hb (Dic.aux_row h hb hl)];exact lE (h.row i l hl)};{intro hs i b l hb hl;obtain⟨l0,hl0⟩:=zT (l:=D.fs) (i:=i) (by rw[h.len];exact yK hb);have e:=Dic.aux_row (v:=v) (a:=a) h hb hl0;rw[hl] at e;cases e;rw[hs i b l0 hb hl0];exact (lE (h.row i l0 hl0)).symm}
theorem Dic.aux_val (h:D.wf){X:Nat->Rat}:(D.aux v a).val X=D.val X:=by show dot X (D.nb++[a]) (ins D.nb.length 0 D.ob)=_;rw[lE h.ob,Rat.zero_mul,Rat.add_zero];rfl
theorem Dic.aux_at (h:D.wf){i j:Nat}(hi:i<D.bs.length):(D.aux v a).at i j=if j<D.nb.length then D.at i j else if j=D.nb.length then (if D.bs.getD i 0<v then 0 else 1) else D.at i (j-1):=by
 obtain⟨b,hb⟩:=zT hi;obtain⟨l,hl⟩:=zT (l:=D.fs) (i:=i) (by rw[h.len];exact hi);have:=h.row i l hl;unfold Dic.at
 rw[getD_some (Dic.aux_row h hb hl),getD_some hl,getD_some hb,zNB (by omega)]
theorem Dic.aux_cst (h:D.wf){i:Nat}(hi:i<D.bs.length):(D.aux v a).cst i=D.cst i:=by show (D.aux v a).at i (D.nb++[a]).length=D.at i D.nb.length;rw[Dic.aux_at h hi,if_neg (by simp),if_neg (by simp)];simp
end
theorem lF {X:Nat->Rat}:∀ {nb:List Nat} {l:List Rat} {c:Nat},l.length=nb.length+1->c<nb.length->dot X (nb.eraseIdx c) (l.eraseIdx c)=dot X nb l-l.getD c 0*X (nb.getD c 0)
 |[],l,c,_,h=>by simp at h| v::vs,[],c,h,_=>by simp at h| v::vs,x::l,0,h,_=>by simp only[List.eraseIdx_zero,List.tail_cons,dot,List.headD_cons,List.getD_cons_zero];grind| v::vs,x::l,c+1,h,hc=>by have ih:=lF (X:=X) (nb:=vs) (l:=l) (c:=c) (by simpa using h) (by simpa using hc);simp only[List.eraseIdx_cons_succ,dot,List.headD_cons,List.tail_cons,List.getD_cons_succ];rw[ih];grind
section
variable {D:Dic} {c:Nat}
theorem Dic.del_row {i:Nat}{l:List Rat}(hl:D.fs[i]?=some l):(D.del c).fs[i]?=some (l.eraseIdx c):=by show (D.fs.map fun l=>l.eraseIdx c)[i]?=_;rw[List.getElem?_map,hl];rfl
theorem Dic.del_nl (hc:c<D.nb.length):(D.del c).nb.length+1=D.nb.length:=by show (D.nb.eraseIdx c).length+1=_;rw[List.length_eraseIdx_of_lt hc];omega
theorem Dic.del_wf (h:D.wf)(hc:c<D.nb.length):(D.del c).wf where
 len:=by show (D.fs.map _).length=_;rw[List.length_map];exact h.len
 row i l hl:=by obtain⟨l0,hl0⟩:=zT (l:=D.fs) (i:=i) (by have:=yK hl;show i<_;rw[show (D.del c).fs.length=D.fs.length from List.length_map _] at this;exact this);rw[Dic.del_row hl0] at hl;cases hl;have:=h.row i l0 hl0;have h2:=Dic.del_nl hc;rw[List.length_eraseIdx_of_lt (by omega)];omega
 ob:=by have:=h.ob;have h2:=Dic.del_nl hc;show (D.ob.eraseIdx c).length=_;rw[List.length_eraseIdx_of_lt (by omega)];omega
 nd:=by have hs:(D.bs++D.nb.eraseIdx c).Sublist (D.bs++D.nb):=List.Sublist.append (List.Sublist.refl _) (List.eraseIdx_sublist _ _);exact List.Nodup.sublist hs h.nd
theorem Dic.del_sat (h:D.wf)(hc:c<D.nb.length){X:Nat->Rat}(hX:X (D.nb.getD c 0)=0):(D.del c).Sat X↔D.Sat X:=by constructor;{intro hs i b l hb hl;rw[hs i b _ hb (Dic.del_row hl)];show dot X (D.nb.eraseIdx c) _=_;rw[lF (h.row i l hl) hc,hX,Rat.mul_zero,Rat.sub_eq_add_neg,Rat.neg_zero,Rat.add_zero]};{intro hs i b l hb hl;obtain⟨l0,hl0⟩:=zT (l:=D.fs) (i:=i) (by rw[h.len];exact yK hb);rw[Dic.del_row hl0] at hl;cases hl;rw[hs i b l0 hb hl0];show _=dot X (D.nb.eraseIdx c) _;rw[lF (h.row i l0 hl0) hc,hX,Rat.mul_zero,Rat.sub_eq_add_neg,Rat.neg_zero,Rat.add_zero]}
theorem Dic.del_val (h:D.wf)(hc:c<D.nb.length){X:Nat->Rat}(hX:X (D.nb.getD c 0)=0):(D.del c).val X=D.val X:=by show dot X (D.nb.eraseIdx c) (D.ob.eraseIdx c)=dot X D.nb D.ob;rw[lF h.ob hc,hX,Rat.mul_zero,Rat.sub_eq_add_neg,Rat.neg_zero,Rat.add_zero]
theorem eR {α:Type}{l:List α}{c j:Nat}{d:α}:(l.eraseIdx c).getD j d=if j<c then l.getD j d else l.getD (j+1) d:=by rw[List.getD_eq_getElem?_getD,List.getElem?_eraseIdx];split <;> rw[List.getD_eq_getElem?_getD]
theorem Dic.del_at {i j:Nat}(h:D.wf)(hi:i<D.bs.length):(D.del c).at i j=if j<c then D.at i j else D.at i (j+1):=by
 obtain⟨l,hl⟩:=zT (l:=D.fs) (i:=i) (by rw[h.len];exact hi);unfold Dic.at
 rw[getD_some (Dic.del_row hl),getD_some hl,eR]
theorem Dic.del_cst {i:Nat}(h:D.wf)(hc:c<D.nb.length)(hi:i<D.bs.length):(D.del c).cst i=D.cst i:=by have h2:=Dic.del_nl hc;show (D.del c).at i (D.del c).nb.length=D.at i D.nb.length;rw[Dic.del_at h hi,if_neg (by omega),h2]
end
def WrP (v:Nat) (D:Dic) (j:Nat) (b:Int):Prop :=
 (b<0->∀ i,i<j->v<=D.bs.getD i 0->¬D.cst i<0) /\
 (0<=b->b.toNat<j/\v<=D.bs.getD b.toNat 0/\D.cst b.toNat<0/\∀ i,i<j->v<=D.bs.getD i 0->D.cst i<0->D.cst b.toNat<=D.cst i)
theorem zAA {v:Nat}{D:Dic}:∀ (ys:List Nat) (j:Nat) (b:Int),D.bs.drop j=ys->j<=D.bs.length->WrP v D j b->WrP v D D.bs.length (wrGo v D ys j b)
 |[],j,b,hd,hj,h=>by
  (have:j=D.bs.length:=by have:=congrArg List.length hd;simp at this;omega);rw[wrGo,<-this];exact h
 |y::ys,j,b,hd,hj,h=>by
  (have hlt:j<D.bs.length:=by have:=congrArg List.length hd;simp at this;omega);have hy:D.bs[j]?=some y:=by
   (have h1:(D.bs.drop j)[0]?=some y:=by rw[hd];rfl);rw[List.getElem?_drop,Nat.add_zero] at h1
   exact h1
  (have hgy:D.bs.getD j 0=y:=getD_some hy;have hd':D.bs.drop (j+1)=ys:=by rw[<-List.tail_drop,hd];rfl);rw[wrGo]
  refine zAA ys (j+1) _ hd' hlt ?_;split;{rename_i hc;refine⟨fun hb=>absurd hb (by omega),fun _=>⟨by simp,by rw[Int.toNat_natCast,hgy];exact hc.1,by rw[Int.toNat_natCast];exact hc.2.1,fun i hi h1 h2=>?_⟩⟩;rw[Int.toNat_natCast];by_cases e:i=j;{rw[e];exact Rat.le_refl};{rcases hc.2.2 with hb|hb;{exact absurd h2 (h.1 hb i (by omega) h1)};{by_cases hbn:b<0;{exact absurd h2 (h.1 hbn i (by omega) h1)};{have:=(h.2 (by omega)).2.2.2 i (by omega) h1 h2;grind}}}};{rename_i hc;refine⟨fun hb i hi h1 h2=>?_,fun hb=>?_⟩;{by_cases e:i=j;{subst e;rw[hgy] at h1;exact hc ⟨h1,h2,.inl hb⟩};{exact h.1 hb i (by omega) h1 h2}};{obtain⟨k1,k2,k3,k4⟩:=h.2 hb;refine⟨by omega,k2,k3,fun i hi h1 h2=>?_⟩;by_cases e:i=j;{subst e;rw[hgy] at h1;exact Rat.not_lt.1 fun q=>hc ⟨h1,h2,.inr q⟩};{exact k4 i (by omega) h1 h2}}}
theorem r8 (v:Nat)(D:Dic):WrP v D D.bs.length (wrs v D) :=
 zAA D.bs 0 (-1) rfl (Nat.zero_le _) ⟨fun _ i hi=>absurd hi (by omega),fun h=>absurd h (by decide)⟩
theorem mJ:∀ (l:List Rat) (j:Nat),(∃ c,c∈l/\c≠0)->0<=rO l j/\j<=(rO l j).toNat/\∃ c,l[(rO l j).toNat-j]?=some c/\c≠0
 |[],j,h=>by obtain⟨c,hc,_⟩:=h;cases hc
 |c::l,j,h=>by
  rw[rO];split;{rename_i hc;exact⟨by omega,by simp,c,by simp,hc⟩}
  ·rename_i hc;have hc0:c=0:=Classical.byContradiction hc;have ih:=mJ l (j+1) (by
    obtain⟨x,hx,hx0⟩:=h;rcases List.mem_cons.1 hx with e|e;{exact absurd (e.trans hc0) hx0}
    ·exact⟨x,e,hx0⟩)
   obtain⟨h1,h2,x,h3,h4⟩:=ih;refine⟨h1,by omega,x,?_,h4⟩;rw[show (rO l (j+1)).toNat-j=((rO l (j+1)).toNat-(j+1))+1 by omega,List.getElem?_cons_succ];exact h3
theorem zH4 {α:Type}{l:List α}{i:Nat}{x:α}(h:l[i]?=some x):l.set i x=l:=by apply List.ext_getElem?;intro j;rw[List.getElem?_set];by_cases hj:i=j;{subst hj;rw[if_pos rfl,if_pos (List.getElem?_eq_some_iff.1 h).1,h]};{rw[if_neg hj]}
theorem sE {X:Nat->Rat}:∀ {nb:List Nat} {n:Nat},dot X nb (List.replicate n 0)=0
 |[],n=>by cases n <;> rfl
 |v::vs,0=>by have:=sE (X:=X) (nb:=vs) (n:=0);simp only[List.replicate,dot,List.headD_nil,List.tail_nil] at this ⊢;rw[this];grind| v::vs,n+1=>by simp only[List.replicate_succ,dot,List.headD_cons,List.tail_cons];rw[sE];grind
theorem Dic.sat_congr {D:Dic}(h:D.wf){X Y:Nat->Rat}(hxy:∀ y,y∈D.bs\/y∈D.nb->X y=Y y):D.Sat X↔D.Sat Y:=by
 have key:∀ {X Y:Nat->Rat},(∀ y,y∈D.bs\/y∈D.nb->X y=Y y)->D.Sat X->D.Sat Y:=fun {X Y} hxy hs i b l hb hl=>by rw[<-hxy b (.inl (List.mem_of_getElem? hb)),hs i b l hb hl];exact kS fun y hy=>hxy y (.inr hy)
 exact⟨key hxy,key fun y hy=>(hxy y hy).symm⟩
theorem zI9 {F:Dic}{a:Nat}(hw:F.wf)(ha:a∈F.bs\/a∈F.nb){X:Nat->Rat}(hX:F.Sat X):X a=dot X F.nb (vio a F):=by unfold vio;split;{rename_i h;have hg:=wT h;obtain⟨l,hl⟩:=zT (l:=F.fs) (i:=(wO F.bs a).toNat) (by rw[hw.len];exact yK hg);rw[getD_some hl];exact hX _ a l hg hl};{rename_i h;have han:a∈F.nb:=ha.resolve_left fun q=>h (wS q);have hg:=wT (wS han);have hlt:=yK hg;have:=tQ X (F.nb.getD (wO F.nb a).toNat 0) 1 F.nb (List.replicate (F.nb.length+1) 0) (wO F.nb a).toNat (by simp) hlt;rw[getD_some hg,zH4 hg,sE] at this;rw[this,List.getD_eq_getElem?_getD,List.getElem?_replicate,if_pos (by omega)];simp only[Option.getD_some];grind}
theorem BRun.rel0 {v m:Nat}{z:(Nat->Rat)->Rat}{D:Nat->Dic}{l:Nat->List Rat}{r e:Nat->Nat}{k:Nat}(h:BRun (frV v) z D l r e k)(h0:(D 0).rel0 v m):∀ i,i<=k->(D i).rel0 v m
 |0,_=>h0| i+1,hi=>by have s:=h.step i hi;rw[s.2];exact Dic.rel0_piv (h.wf i (by omega)) s.1.hr s.1.he (by have:=s.1.rfr;simpa[frV] using this) (BRun.rel0 h h0 i (by omega))
section
variable {D:Dic} {v r:Nat}
structure Feas (v:Nat) (D E:Dic):Prop where
 wf:E.wf
 same:Same E D
 val:∀ X,D.Sat X->E.val X=D.val X
 feas:E.feas (frV v)
 rel0:E.rel0 v E.nb.length
 nl:E.nb.length=D.nb.length
theorem zD5 {G:Dic}{a c:Nat}(hw:D.wf)(h1:a∉D.bs)(h2:a∉D.nb)(hG:G.wf)(hs:Same G (D.aux v a))(hv:∀ X,(D.aux v a).Sat X->G.val X=(D.aux v a).val X)(hf:G.feas (frV v))(h0:G.rel0 v G.nb.length)(hn:G.nb.length=D.nb.length+1)(hc:G.nb[c]?=some a):Feas v D (G.del c):=by
 have hcl:=yK hc;have hgc:G.nb.getD c 0=a:=getD_some hc;have hw4:=Dic.del_wf hG hcl;have hnl:=Dic.del_nl (D:=G) hcl;have hmem:∀ y,y∈(G.del c).nb↔y∈G.nb/\y≠a:=fun y=>by show y∈G.nb.eraseIdx c↔_;rw[List.mem_eraseIdx_iff_getElem?];constructor;{rintro⟨j,hj,hy⟩;exact⟨List.mem_of_getElem? hy,fun e=>hj (v4 hG.nb (by rw[hy,e]) hc)⟩};{rintro⟨hy,hne⟩;obtain⟨j,hj⟩:=xL hy;exact⟨j,fun e=>hne (by rw[e,hc] at hj;exact (Option.some.inj hj).symm),hj⟩}
 have hab:a∉G.bs:=fun q=>hG.ne q (List.mem_of_getElem? hc);have hvars:∀ y,(y∈(G.del c).bs\/y∈(G.del c).nb)↔(y∈D.bs\/y∈D.nb):=fun y=>by
  (have e1:=hs.vars y;have e2:y∈(D.aux v a).bs↔y∈D.bs:=Iff.rfl;have e3:y∈(D.aux v a).nb↔y∈D.nb\/y=a:=by show y∈D.nb++[a]↔_;simp);rw[e2,e3] at e1
  rw[hmem];show (y∈G.bs\/_)↔_;constructor;{rintro (q|q);{rcases e1.1 (.inl q) with q2|q2|q2;{exact .inl q2};{exact .inr q2};{exact absurd (q2 ▸ q) hab}};{rcases e1.1 (.inr q.1) with q2|q2|q2;{exact .inl q2};{exact .inr q2};{exact absurd q2 q.2}}};{intro q;have hya:y≠a:=fun e=>q.elim (fun q=>h1 (by rw[<-e];exact q)) (fun q=>h2 (by rw[<-e];exact q));rcases e1.2 (q.imp id .inl) with q2|q2;{exact .inl q2};{exact .inr ⟨q2,hya⟩}}
 have hX0:∀ X:Nat->Rat,∃ Y:Nat->Rat,Y a=0/\∀ y,y∈D.bs\/y∈D.nb->X y=Y y:=fun X=>⟨fun y=>if y=a then 0 else X y,if_pos rfl,fun y hy=>(if_neg (c:=y=a) (fun e=>hy.elim (fun q=>h1 (by rw[<-e];exact q)) (fun q=>h2 (by rw[<-e];exact q)))).symm⟩;have hauxs:∀ {Y:Nat->Rat},Y a=0->((D.aux v a).Sat Y↔D.Sat Y):=fun {Y} hY=>by rw[Dic.aux_sat hw];constructor;{intro h i b l hb hl;have:=h i b l hb hl;rw[hY,Rat.mul_zero,Rat.add_zero] at this;exact this};{intro h i b l hb hl;rw[hY,Rat.mul_zero,Rat.add_zero];exact h i b l hb hl}
 refine⟨hw4,⟨fun X=>?_,hvars⟩,fun X hX=>?_,fun j hj hfj=>?_,?_,by omega⟩;{obtain⟨Y,hY,hXY⟩:=hX0 X;rw[Dic.sat_congr hw4 (fun y hy=>hXY y ((hvars y).1 hy)),Dic.del_sat hG hcl (by rw[hgc];exact hY),hs.sat,hauxs hY,Dic.sat_congr hw hXY]};{obtain⟨Y,hY,hXY⟩:=hX0 X;have hDY:=(Dic.sat_congr hw hXY).1 hX;have hAY:=(hauxs hY).2 hDY;have e1:(G.del c).val X=(G.del c).val Y:=kS fun y hy=>hXY y ((hvars y).1 (.inr hy));have e2:D.val X=D.val Y:=kS fun y hy=>hXY y (.inr hy);rw[e1,e2,Dic.del_val hG hcl (by rw[hgc];exact hY),hv Y hAY,Dic.aux_val hw]};{have hj':j<G.bs.length:=hj;rw[Dic.del_cst hG hcl hj'];exact hf j hj' hfj};{intro e he1 he hev i hi hiv;have hi':i<G.bs.length:=hi;have hev':(G.nb.eraseIdx c).getD e 0<v:=hev;rw[eR] at hev';rw[Dic.del_at hG hi'];split;{rename_i hlt;rw[if_pos hlt] at hev';exact h0 e (by omega) (by omega) hev' i hi' hiv};{rename_i hlt;rw[if_neg hlt] at hev';exact h0 (e+1) (by omega) (by omega) hev' i hi' hiv}}
end
theorem aP {F:Dic}{a i:Nat}{l:List Rat}(hi:wO F.bs a=(i:Int))(hl:F.fs[i]?=some l):vio a F=l:=by unfold vio;rw[if_pos (by omega),hi,Int.toNat_natCast,getD_some hl]
theorem zKP {F:Dic}{a:Nat}(h:a∉F.bs)(ha:a∈F.nb):(vio a F).getD F.nb.length 0=0:=by unfold vio;rw[if_neg (by have:=zDU h;omega)];have hlt:=yK (wT (wS ha));rw[List.getD_eq_getElem?_getD,List.getElem?_set_ne (by omega),List.getElem?_replicate,if_pos (by omega)];rfl
theorem nO {D E:Dic}{v a i:Nat}(hw:D.wf)(h1:a∉D.bs)(h2:a∉D.nb)(hE:E.wf)(hs:Same E (D.aux v a))(hi:E.bs[i]?=some a):∃ j,j<E.nb.length/\E.at i j≠0:=by
 refine Classical.byContradiction fun hno=>?_;have hno':∀ j,j<E.nb.length->E.at i j=0:=fun j hj=>Classical.byContradiction fun q=>hno ⟨j,hj,q⟩;obtain⟨l,hl⟩:=zT (l:=E.fs) (i:=i) (by rw[hE.len];exact yK hi);have hwa:=Dic.aux_wf (v:=v) hw h1 h2;have ham:a∈(D.aux v a).nb:=by show a∈D.nb++[a];simp
 have key:∀ t:Rat,dot ((D.aux v a).ext fun _=>t) E.nb l=t:=fun t=>by have hX:=(hs.sat _).2 (Dic.ext_sat hwa fun _=>t);rw[<-hX i a l hi hl,Dic.ext_nb hwa _ ham]
 have e0:=key 0;have e1:=key 1;have:dot ((D.aux v a).ext fun _=>(0:Rat)) E.nb l=dot ((D.aux v a).ext fun _=>(1:Rat)) E.nb l:=rX fun j hj hne=>absurd (by have:=hno' j hj;unfold Dic.at at this;rw[getD_some hl] at this;exact this) hne;rw[e0,e1] at this;exact absurd this (by decide)
structure FeasRes (v r:Nat) (D:Dic) (p:Nat) (R:Dic×Nat×Option (List Rat)×Bool):Prop where
 ok:R.2.2.2=true
 few:R.2.1<=p+1+2^(r+1)
 none:R.2.2.1=none->Feas v D R.1
 some:∀ l,R.2.2.1=some l->l.length=r/\(∀ c,c∈l->0<=c)/\∃ k,0<k/\∀ X,D.Sat X->j8 l (fun j=>X (v+j))+k=0
theorem fB:∀ {l:List Rat} {f g:Nat->Rat},(∀ k,k<l.length->f k=g k)->j8 l f=j8 l g
 |[],_,_,_=>rfl| q::qs,f,g,h=>by rw[j8,j8,h 0 (by simp),fB (fun k hk=>h (k+1) (by simpa using hk))]
theorem zHC {v r p:Nat}{D:Dic}(hw:D.wf)(h0:D.rel0 v D.nb.length)(hy:∀ y,y∈D.bs\/y∈D.nb->y<v+r)(hp:p+1+2^(r+1)<=65537):FeasRes v r D p (vF v r D p):=by
 have hws:=r8 v D;unfold vF;split;{rename_i h;exact⟨rfl,by show p<=p+1+2^(r+1);exact Nat.le_trans (Nat.le_add_right p 1) (Nat.le_add_right _ _),fun _=>⟨hw,.refl D,fun _ _=>rfl,fun i hi hfi=>Rat.not_lt.1 (hws.1 h i hi (by simpa[frV] using hfi)),h0,rfl⟩,fun l hl=>by cases hl⟩}
 ·rename_i h;obtain⟨w1,w2,w3,w4⟩:=hws.2 (by omega);generalize (wrs v D).toNat=w at *
  (have h1:v+r∉D.bs:=fun q=>by have:=hy _ (.inl q);omega);have h2:v+r∉D.nb:=fun q=>by have:=hy _ (.inr q);omega
  (have hwa:=Dic.aux_wf (v:=v) hw h1 h2;have hnl:(D.aux v (v+r)).nb.length=D.nb.length+1:=by show (D.nb++[v+r]).length=_;simp);have hbl:(D.aux v (v+r)).bs.length=D.bs.length:=rfl
  (have hbg:∀ i,(D.aux v (v+r)).bs.getD i 0=D.bs.getD i 0:=fun i=>rfl;have hat:∀ i,i<D.bs.length->(D.aux v (v+r)).at i D.nb.length=if D.bs.getD i 0<v then 0 else 1:=fun i hi=>by rw[Dic.aux_at hw hi,if_neg (by omega),if_pos rfl]);have hatw:(D.aux v (v+r)).at w D.nb.length=1:=by rw[hat w w1,if_neg (by omega)]
  (have hne:(D.aux v (v+r)).at w D.nb.length≠0:=by rw[hatw];decide);have hnbn:(D.aux v (v+r)).nb.getD D.nb.length 0=v+r:=by show (D.nb++[v+r]).getD D.nb.length 0=_;rw[List.getD_eq_getElem?_getD,List.getElem?_append_right (Nat.le_refl _),Nat.sub_self];rfl
  have h0a:(D.aux v (v+r)).rel0 v (D.nb.length+1):=fun e he1 he hev i hi hiv=>by
   by_cases hen:e=D.nb.length;{rw[hen,hnbn] at hev;omega}
   ·(have hel:e<D.nb.length:=by omega);have:(D.aux v (v+r)).nb.getD e 0=D.nb.getD e 0:=by show (D.nb++[v+r]).getD e 0=_;rw[List.getD_eq_getElem?_getD,List.getElem?_append_left hel,List.getD_eq_getElem?_getD]
    rw[this] at hev;rw[Dic.aux_at hw hi,if_pos hel];exact h0 e hel hel hev i hi hiv
  have hp3:Pvs (D.aux v (v+r)) ((D.aux v (v+r)).piv w D.nb.length):=.step .refl w1 (by omega) hne;have hw3:=hp3.wf hwa;have h03:=Dic.rel0_piv hwa (r:=w) (e:=D.nb.length) w1 (by omega) w2 h0a;have hf3:((D.aux v (v+r)).piv w D.nb.length).feas (frV v):=fun i hi hfi=>by
   (rw[Dic.piv_bl] at hi;have e1:((D.aux v (v+r)).piv w D.nb.length).cst i=((D.aux v (v+r)).piv w D.nb.length).at i (D.nb.length+1):=by show ((D.aux v (v+r)).piv w D.nb.length).at i ((D.aux v (v+r)).piv w D.nb.length).nb.length=_;rw[Dic.piv_nl,hnl]);have e2:∀ k,k<D.bs.length->(D.aux v (v+r)).at k (D.nb.length+1)=D.cst k:=fun k hk=>by have:=Dic.aux_cst (v:=v) (a:=v+r) hw hk;rw[<-this];show _=(D.aux v (v+r)).at k (D.aux v (v+r)).nb.length;rw[hnl]
   rw[e1];by_cases hiw:i=w;{subst hiw;rw[Dic.piv_at_r hwa w1 (by omega) (by omega),if_neg (by omega),hatw,e2 i w1];rw[Rat.div_def];grind}
   ·(rw[Dic.piv_at hwa w1 (by omega) hi hiw (by omega),if_neg (by omega),if_neg (by omega),hatw,e2 i hi,e2 w w1,hat i hi];rw[Dic.piv_bs_get (D:=D.aux v (v+r)) w1,if_neg hiw,hbg] at hfi;have hiv:v<=D.bs.getD i 0:=by simpa[frV] using hfi);rw[if_neg (by omega)]
    have:=w4 i hi hiv;rw[Rat.div_def];by_cases hc:D.cst i<0;{have:=this hc;grind};{grind}
  (have hz:∀ F,Pvs ((D.aux v (v+r)).piv w D.nb.length) F->∀ X,F.Sat X->X (v+r)=dot X F.nb (vio (v+r) F):=fun F hF X hX=>by refine zI9 (hF.wf hw3) ?_ hX;refine (((hp3.trans hF).same hwa).vars _).2 (.inr ?_);show v+r∈D.nb++[v+r];simp);have hM:∀ y,y∈((D.aux v (v+r)).piv w D.nb.length).bs\/y∈((D.aux v (v+r)).piv w D.nb.length).nb->y<v+(r+1):=fun y hy'=>by have:=((hp3.same hwa).vars y).1 hy';have h3:y∈D.bs\/y∈D.nb++[v+r]:=this;rcases h3 with q|q;{have:=hy y (.inl q);omega};{rcases List.mem_append.1 q with q|q;{have:=hy y (.inr q);omega};{simp at q;omega}}
  obtain⟨hm,hok,hfe,hfew⟩:=zAM (v:=v) (z:=fun X=>X (v+r)) (ln:=vio (v+r)) (p0:=p+1) (M:=r+1) hw3 hf3 hz hM hp;unfold zI3;generalize wR v (vio (v+r)) (65537-(p+1)) ((D.aux v (v+r)).piv w D.nb.length) (p+1)=R at *
  (obtain⟨E,q,e,ok⟩:=R;dsimp only at hok hfe hfew;subst hok;have hpE:Pvs (D.aux v (v+r)) E:=hp3.trans hm.pvs;have hwE:=hpE.wf hwa;have hsE:=hpE.same hwa;have hvE:∀ X,(D.aux v (v+r)).Sat X->E.val X=(D.aux v (v+r)).val X:=fun X hX=>hpE.val hwa hX;have hnE:E.nb.length=D.nb.length+1:=hpE.len.2.trans hnl;have haE:v+r∈E.bs\/v+r∈E.nb:=(hsE.vars _).2 (.inr (by show v+r∈D.nb++[v+r];simp));have h0E:E.rel0 v (D.nb.length+1):=by obtain⟨n,⟨Ds,ls,rs,es,hB,e0,en,el⟩,hn⟩:=hm.run;have:=BRun.rel0 (m:=D.nb.length+1) hB (by rw[e0];exact h03) n (Nat.le_refl _);rw[en] at this;exact this);have hbounded:ent v E.nb (vio (v+r) E)<0:=by
   rcases (hm.ok rfl).2 with q|⟨q1,q2,q3⟩;{exact q.2}
   ·exfalso;dsimp only at q1 q2 q3;rw[q2] at q1 q3;obtain⟨k1,k2,k3⟩:=c9 q1;generalize (ent v E.nb (vio (v+r) E)).toNat=j at *
    by_cases hab:v+r∈E.bs;{have hg:=wT (wS hab);obtain⟨l,hl⟩:=zT (l:=E.fs) (i:=(wO E.bs (v+r)).toNat) (by rw[hwE.len];exact yK hg);have hv:=aP (F:=E) (a:=v+r) (i:=(wO E.bs (v+r)).toNat) (by have:=wS hab;omega) hl;have:=eA q3 (yK hg) (by rw[getD_some hg];omega);unfold Dic.at at this;rw[getD_some hl,<-hv] at this;grind}
    ·(have hv:vio (v+r) E=(List.replicate (E.nb.length+1) 0).set (wO E.nb (v+r)).toNat 1:=by unfold vio;rw[if_neg (by have:=zDU hab;omega)]);rw[hv,List.getD_eq_getElem?_getD,List.getElem?_set] at k3;split at k3
     {split at k3;{exact absurd k3 (by decide)};{exact absurd k3 (by decide)}};{rw[List.getElem?_replicate] at k3;split at k3 <;> exact absurd k3 (by decide)}
  (have hX0:∀ X,D.Sat X->∃ Y:Nat->Rat,Y (v+r)=0/\(∀ y,y<v+r->Y y=X y)/\E.Sat Y:=fun X hX=>by refine⟨fun y=>if y=v+r then 0 else X y,if_pos rfl,fun y hy=>if_neg (by omega),(hsE.sat _).2 ((Dic.aux_sat hw).2 fun i b l hb hl=>?_)⟩;rw[if_pos rfl,Rat.mul_zero,Rat.add_zero,if_neg (by have:=hy b (.inl (List.mem_of_getElem? hb));omega),hX i b l hb hl];exact kS fun y hym=>(if_neg (by have:=hy y (.inr hym);omega)).symm);dsimp only;split
  ·(rename_i hc;have hab:v+r∈E.bs:=Classical.byContradiction fun q=>by rw[zKP q (haE.resolve_left q)] at hc;exact absurd hc (by decide));have hg:=wT (wS hab);obtain⟨i,hi⟩:∃ i:Nat,wO E.bs (v+r)=i:=⟨(wO E.bs (v+r)).toNat,by have:=wS hab;omega⟩;rw[hi,Int.toNat_natCast] at hg;obtain⟨l,hl⟩:=zT (l:=E.fs) (i:=i) (by rw[hwE.len];exact yK hg);have hv:=aP hi hl;rw[hv] at hbounded hc ⊢;have hanb:v+r∉E.nb:=fun q=>hwE.ne hab q;have hlt:∀ j,j<E.nb.length->E.nb.getD j 0<v+r:=fun j hj=>by have h3:=(hsE.vars _).1 (.inr (yN (d:=0) hj));have h4:E.nb.getD j 0∈D.bs\/E.nb.getD j 0∈D.nb++[v+r]:=h3;rcases h4 with q|q;{exact hy _ (.inl q)};{rcases List.mem_append.1 q with q|q;{exact hy _ (.inr q)};{simp only[List.mem_singleton] at q;exact absurd (q ▸ yN (d:=0) hj) hanb}}
   refine⟨rfl,by show q<=_;omega,(fun h=>by cases h),fun l' hl'=>?_⟩;simp only[Option.some.injEq] at hl';subst hl';refine⟨cJ,zBZ fun j hj hjv=>eT hbounded hj hjv,l.getD E.nb.length 0,hc,fun X hX=>?_⟩;obtain⟨Y,hY0,hYX,hYs⟩:=hX0 X hX;have hd:=eZ (v:=v) (r:=r) (nb:=E.nb) (l:=l) (X:=Y) hwE.nb (fun j hj hno=>.inl (by
    (have h3:=hlt j hj;have h4:E.nb.getD j 0<v:=by omega);have:=h0E j (by omega) hj h4 i (yK hg) (by rw[getD_some hg];omega)
    unfold Dic.at at this;rw[getD_some hl] at this;exact this))
   rw[<-hYs i _ l hg hl,hY0] at hd;rw[fB (g:=fun k=>Y (v+k)) (fun k hk=>(hYX (v+k) (by rw[cJ] at hk;omega)).symm)];exact hd.symm
  ·rename_i hc;split
   ·rename_i hb0;have hab:v+r∈E.bs:=List.mem_of_getElem? (wT hb0);have hg:=wT hb0;obtain⟨i,hi⟩:∃ i:Nat,wO E.bs (v+r)=i:=⟨(wO E.bs (v+r)).toNat,by omega⟩;rw[hi,Int.toNat_natCast] at hg ⊢;obtain⟨l,hl⟩:=zT (l:=E.fs) (i:=i) (by rw[hwE.len];exact yK hg);have hv:=aP hi hl;have hil:=yK hg;have hll:=hwE.row i l hl;rw[hv] at hc;have hci:E.cst i=0:=by
     (have h3:=hfe i hil (by rw[getD_some hg];simp[frV]);have h4:E.cst i=l.getD E.nb.length 0:=by unfold Dic.cst;rw[getD_some hl]);grind
    obtain⟨j0,hj0,hj1⟩:=nO (v:=v) hw h1 h2 hwE hsE hg;have hnz:=mJ (l.take E.nb.length) 0 (by unfold Dic.at at hj1;rw[getD_some hl] at hj1;refine⟨l.getD j0 0,List.mem_of_getElem? (i:=j0) ?_,hj1⟩;rw[List.getElem?_take_of_lt hj0];exact yL (by omega));rw[getD_some hl];obtain⟨n1,n2,x,n3,n4⟩:=hnz;rw[Nat.sub_zero] at n3;generalize (rO (l.take E.nb.length) 0).toNat=j at *
    (have hjl:j<E.nb.length:=by have:=yK n3;rw[List.length_take] at this;omega);rw[List.getElem?_take_of_lt hjl] at n3
    (have hatj:E.at i j≠0:=by unfold Dic.at;rw[getD_some hl,getD_some n3];exact n4);have hpF:Pvs (D.aux v (v+r)) (E.piv i j):=.step hpE hil hjl hatj
    (have hwF:=hpF.wf hwa;have hgF:(E.piv i j).nb[j]?=some (v+r):=by show (E.nb.set j (E.bs.getD i 0))[j]?=_;rw[List.getElem?_set,if_pos rfl,if_pos hjl,getD_some hg]);have hnF:(E.piv i j).nb.length=D.nb.length+1:=(Dic.piv_nl _ _ _).trans hnE;have hidx:(wO (E.piv i j).nb (v+r)).toNat=j:=v4 hwF.nb (wT (wS (List.mem_of_getElem? hgF))) hgF;have h0F:=Dic.rel0_piv hwE hil hjl (by rw[getD_some hg];omega) h0E;have hfF:(E.piv i j).feas (frV v):=fun k hk hfk=>by
     (rw[Dic.piv_bl] at hk;have e1:(E.piv i j).cst k=(E.piv i j).at k E.nb.length:=by show (E.piv i j).at k (E.piv i j).nb.length=_;rw[Dic.piv_nl]);have e2:E.at i E.nb.length=0:=hci;rw[e1];by_cases hki:k=i
     {subst hki;rw[Dic.piv_at_r hwE hil hjl (Nat.le_refl _),if_neg (by omega),e2,Rat.div_def];grind};{rw[Dic.piv_at hwE hil hjl hk hki (Nat.le_refl _),if_neg (by omega),if_neg (by omega),e2,Rat.div_def];rw[Dic.piv_bs_get hil,if_neg hki] at hfk;have:=hfe k hk hfk;have e3:E.at k E.nb.length=E.cst k:=rfl;rw[e3];grind}
    refine⟨rfl,by show q+1<=_;omega,fun _=>?_,fun l hl=>by cases hl⟩;show Feas v D ((E.piv i j).del (wO (E.piv i j).nb (v+r)).toNat);rw[hidx];exact zD5 hw h1 h2 hwF (hpF.same hwa) (fun X hX=>hpF.val hwa hX) hfF (by rw[hnF];exact h0F) hnF hgF
   {rename_i hb0;have han:v+r∈E.nb:=haE.resolve_left fun w=>hb0 (wS w);refine⟨rfl,by show q<=_;omega,fun _=>?_,fun l hl=>by cases hl⟩;exact zD5 hw h1 h2 hwE hsE hvE hfe (by rw[hnE];exact h0E) hnE (wT (wS han))}
theorem aB {v:Nat}{ln:Dic->List Rat}:∀ (f:Nat) (D:Dic) (p:Nat),Pvs D (wR v ln f D p).1/\(p<=65537->(wR v ln f D p).2.1<=65537)
 |0,D,p=>⟨.refl,fun h=>h⟩| f+1,D,p=>by
  rw[wR];split
  ·rename_i hq;split;{exact⟨.refl,fun h=>h⟩}
   ·rename_i h1;split;{exact⟨.refl,fun h=>h⟩}
    ·(rename_i h2;have hs:=zEJ (v:=v) (D:=D) (l:=ln D) (by omega) (by omega);have hne:D.at (lvR v (ent v D.nb (ln D)).toNat D).toNat (ent v D.nb (ln D)).toNat≠0:=by have:=hs.rneg;grind);have ih:=aB (v:=v) (ln:=ln) f (D.piv (lvR v (ent v D.nb (ln D)).toNat D).toNat (ent v D.nb (ln D)).toNat) (p+1)
     exact⟨(Pvs.step .refl hs.hr hs.he hne).trans ih.1,fun _=>ih.2 (by omega)⟩
  {exact⟨.refl,fun h=>h⟩}
end Go.Proofs.YtfainocfaddbdaaGreat
