/- A part of the proof: SxL, SxM, SyA. -/
import Derived.Test.YtfainocfaddbdaaGreatT29
import Derived.Test.YtfainocfaddbdaaGreatT27
import Derived.Test.YtfainocfaddbdaaGreatT28
set_option linter.all false
namespace Go.Proofs.YtfainocfaddbdaaGreat
open Go
set_option maxRecDepth 100000
set_option maxHeartbeats 4000000
theorem b8 {F:Dic}{a i:Nat}{l:List Rat}(hi:wQ F.bs a=(i:Int))(hl:F.fs[i]?=some l):vio a F=l:=by unfold vio;rw[if_pos (by omega),hi,Int.toNat_natCast,getD_some hl]
theorem zJC {F:Dic}{a:Nat}(h:a∉F.bs)(ha:a∈F.nb):(vio a F).getD F.nb.length 0=0:=by unfold vio;rw[if_neg (by have:=zC2 h;omega)];have hlt:=yT (wW (wV ha));rw[List.getD_eq_getElem?_getD,List.getElem?_set_ne (by omega),List.getElem?_replicate,if_pos (by omega)];rfl
theorem m6 {D E:Dic}{v a i:Nat}(hw:D.wf)(h1:a∉D.bs)(h2:a∉D.nb)(hE:E.wf)(hs:Same E (D.aux v a))(hi:E.bs[i]?=some a):∃ j,j<E.nb.length/\E.at i j≠0:=by
 refine Classical.byContradiction fun hno=>?_;have hno':∀ j,j<E.nb.length->E.at i j=0:=fun j hj=>Classical.byContradiction fun q=>hno ⟨j,hj,q⟩;obtain⟨l,hl⟩:=zV (l:=E.fs) (i:=i) (by rw[hE.len];exact yT hi);have hwa:=Dic.aux_wf (v:=v) hw h1 h2;have ham:a∈(D.aux v a).nb:=by show a∈D.nb++[a];simp
 have key:∀ t:Rat,dot ((D.aux v a).ext fun _=>t) E.nb l=t:=fun t=>by have hX:=(hs.sat _).2 (Dic.ext_sat hwa fun _=>t);rw[<-hX i a l hi hl,Dic.ext_nb hwa _ ham]
 have e0:=key 0;have e1:=key 1;have:dot ((D.aux v a).ext fun _=>(0:Rat)) E.nb l=dot ((D.aux v a).ext fun _=>(1:Rat)) E.nb l:=rA fun j hj hne=>absurd (by have:=hno' j hj;unfold Dic.at at this;rw[getD_some hl] at this;exact this) hne;rw[e0,e1] at this;exact absurd this (by decide)
structure FeasRes (v r:Nat) (D:Dic) (p:Nat) (R:Dic×Nat×Option (List Rat)×Bool):Prop where
 ok:R.2.2.2=true
 few:R.2.1<=p+1+2^(r+1)
 none:R.2.2.1=none->Feas v D R.1
 some:∀ l,R.2.2.1=some l->l.length=r/\(∀ c,c∈l->0<=c)/\∃ k,0<k/\∀ X,D.Sat X->jR l (fun j=>X (v+j))+k=0
theorem gQ:∀ {l:List Rat} {f g:Nat->Rat},(∀ k,k<l.length->f k=g k)->jR l f=jR l g
 |[],_,_,_=>rfl| q::qs,f,g,h=>by rw[jR,jR,h 0 (by simp),gQ (fun k hk=>h (k+1) (by simpa using hk))]
theorem zF8 {v r p:Nat}{D:Dic}(hw:D.wf)(h0:D.rel0 v D.nb.length)(hy:∀ y,y∈D.bs\/y∈D.nb->y<v+r)(hp:p+1+2^(r+1)<=65537):FeasRes v r D p (vU v r D p):=by
 have hws:=nW v D;unfold vU;split;{rename_i h;exact⟨rfl,by show p<=p+1+2^(r+1);exact Nat.le_trans (Nat.le_add_right p 1) (Nat.le_add_right _ _),fun _=>⟨hw,.refl D,fun _ _=>rfl,fun i hi hfi=>Rat.not_lt.1 (hws.1 h i hi (by simpa[frV] using hfi)),h0,rfl⟩,fun l hl=>by cases hl⟩}
 ·rename_i h;obtain⟨w1,w2,w3,w4⟩:=hws.2 (by omega);generalize (wrs v D).toNat=w at *
  (have h1:v+r∉D.bs:=fun q=>by have:=hy _ (.inl q);omega);have h2:v+r∉D.nb:=fun q=>by have:=hy _ (.inr q);omega
  (have hwa:=Dic.aux_wf (v:=v) hw h1 h2;have hnl:(D.aux v (v+r)).nb.length=D.nb.length+1:=by show (D.nb++[v+r]).length=_;simp);have hbl:(D.aux v (v+r)).bs.length=D.bs.length:=rfl
  (have hbg:∀ i,(D.aux v (v+r)).bs.getD i 0=D.bs.getD i 0:=fun i=>rfl;have hat:∀ i,i<D.bs.length->(D.aux v (v+r)).at i D.nb.length=if D.bs.getD i 0<v then 0 else 1:=fun i hi=>by rw[Dic.aux_at hw hi,if_neg (by omega),if_pos rfl]);have hatw:(D.aux v (v+r)).at w D.nb.length=1:=by rw[hat w w1,if_neg (by omega)]
  (have hne:(D.aux v (v+r)).at w D.nb.length≠0:=by rw[hatw];decide);have hnbn:(D.aux v (v+r)).nb.getD D.nb.length 0=v+r:=by show (D.nb++[v+r]).getD D.nb.length 0=_;rw[List.getD_eq_getElem?_getD,List.getElem?_append_right (Nat.le_refl _),Nat.sub_self];rfl
  have h0a:(D.aux v (v+r)).rel0 v (D.nb.length+1):=fun e he1 he hev i hi hiv=>by
   by_cases hen:e=D.nb.length;{rw[hen,hnbn] at hev;omega}
   ·(have hel:e<D.nb.length:=by omega);have:(D.aux v (v+r)).nb.getD e 0=D.nb.getD e 0:=by show (D.nb++[v+r]).getD e 0=_;rw[List.getD_eq_getElem?_getD,List.getElem?_append_left hel,List.getD_eq_getElem?_getD]
    rw[this] at hev;rw[Dic.aux_at hw hi,if_pos hel];exact h0 e hel hel hev i hi hiv
  have hp3:Pvs (D.aux v (v+r)) ((D.aux v (v+r)).piv w D.nb.length):=.step .refl w1 (by omega) hne;have hw3:=hp3.wf hwa;have h03:=Dic.rel0_piv hwa (r:=w) (e:=D.nb.length) w1 (by omega) w2 h0a;have hf3:((D.aux v (v+r)).piv w D.nb.length).feas (frV v):=fun i hi hfi=>by
   (rw[Dic.piv_bl] at hi;have e1:((D.aux v (v+r)).piv w D.nb.length).cst i=((D.aux v (v+r)).piv w D.nb.length).at i (D.nb.length+1):=by show ((D.aux v (v+r)).piv w D.nb.length).at i ((D.aux v (v+r)).piv w D.nb.length).nb.length=_;rw[Dic.piv_nl,hnl]);have e2:∀ k,k<D.bs.length->(D.aux v (v+r)).at k (D.nb.length+1)=D.cst k:=fun k hk=>by have:=Dic.aux_cst (v:=v) (a:=v+r) hw hk;rw[<-this];show _=(D.aux v (v+r)).at k (D.aux v (v+r)).nb.length;rw[hnl]
   rw[e1];by_cases hiw:i=w;{subst hiw;rw[Dic.piv_at_r hwa w1 (by omega) (by omega),if_neg (by omega),hatw,e2 i w1];rw[Rat.div_def];grind}
   ·(rw[Dic.piv_at hwa w1 (by omega) hi hiw (by omega),if_neg (by omega),if_neg (by omega),hatw,e2 i hi,e2 w w1,hat i hi];rw[Dic.piv_bs_get (D:=D.aux v (v+r)) w1,if_neg hiw,hbg] at hfi;have hiv:v<=D.bs.getD i 0:=by simpa[frV] using hfi);rw[if_neg (by omega)]
    have:=w4 i hi hiv;rw[Rat.div_def];by_cases hc:D.cst i<0;{have:=this hc;grind};{grind}
  (have hz:∀ F,Pvs ((D.aux v (v+r)).piv w D.nb.length) F->∀ X,F.Sat X->X (v+r)=dot X F.nb (vio (v+r) F):=fun F hF X hX=>by refine zHZ (hF.wf hw3) ?_ hX;refine (((hp3.trans hF).same hwa).vars _).2 (.inr ?_);show v+r∈D.nb++[v+r];simp);have hM:∀ y,y∈((D.aux v (v+r)).piv w D.nb.length).bs\/y∈((D.aux v (v+r)).piv w D.nb.length).nb->y<v+(r+1):=fun y hy'=>by have:=((hp3.same hwa).vars y).1 hy';have h3:y∈D.bs\/y∈D.nb++[v+r]:=this;rcases h3 with q|q;{have:=hy y (.inl q);omega};{rcases List.mem_append.1 q with q|q;{have:=hy y (.inr q);omega};{simp at q;omega}}
  obtain⟨hm,hok,hfe,hfew⟩:=oY (v:=v) (z:=fun X=>X (v+r)) (ln:=vio (v+r)) (p0:=p+1) (M:=r+1) hw3 hf3 hz hM hp;unfold zHV;generalize vI v (vio (v+r)) (65537-(p+1)) ((D.aux v (v+r)).piv w D.nb.length) (p+1)=R at *
  (obtain⟨E,q,e,ok⟩:=R;dsimp only at hok hfe hfew;subst hok;have hpE:Pvs (D.aux v (v+r)) E:=hp3.trans hm.pvs;have hwE:=hpE.wf hwa;have hsE:=hpE.same hwa;have hvE:∀ X,(D.aux v (v+r)).Sat X->E.val X=(D.aux v (v+r)).val X:=fun X hX=>hpE.val hwa hX;have hnE:E.nb.length=D.nb.length+1:=hpE.len.2.trans hnl;have haE:v+r∈E.bs\/v+r∈E.nb:=(hsE.vars _).2 (.inr (by show v+r∈D.nb++[v+r];simp));have h0E:E.rel0 v (D.nb.length+1):=by obtain⟨n,⟨Ds,ls,rs,es,hB,e0,en,el⟩,hn⟩:=hm.run;have:=BRun.rel0 (m:=D.nb.length+1) hB (by rw[e0];exact h03) n (Nat.le_refl _);rw[en] at this;exact this);have hbounded:ent v E.nb (vio (v+r) E)<0:=by
   rcases (hm.ok rfl).2 with q|⟨q1,q2,q3⟩;{exact q.2}
   ·exfalso;dsimp only at q1 q2 q3;rw[q2] at q1 q3;obtain⟨k1,k2,k3⟩:=aN q1;generalize (ent v E.nb (vio (v+r) E)).toNat=j at *
    by_cases hab:v+r∈E.bs;{have hg:=wW (wV hab);obtain⟨l,hl⟩:=zV (l:=E.fs) (i:=(wQ E.bs (v+r)).toNat) (by rw[hwE.len];exact yT hg);have hv:=b8 (F:=E) (a:=v+r) (i:=(wQ E.bs (v+r)).toNat) (by have:=wV hab;omega) hl;have:=zCU q3 (yT hg) (by rw[getD_some hg];omega);unfold Dic.at at this;rw[getD_some hl,<-hv] at this;grind}
    ·(have hv:vio (v+r) E=(List.replicate (E.nb.length+1) 0).set (wQ E.nb (v+r)).toNat 1:=by unfold vio;rw[if_neg (by have:=zC2 hab;omega)]);rw[hv,List.getD_eq_getElem?_getD,List.getElem?_set] at k3;split at k3
     {split at k3;{exact absurd k3 (by decide)};{exact absurd k3 (by decide)}};{rw[List.getElem?_replicate] at k3;split at k3 <;> exact absurd k3 (by decide)}
  (have hX0:∀ X,D.Sat X->∃ Y:Nat->Rat,Y (v+r)=0/\(∀ y,y<v+r->Y y=X y)/\E.Sat Y:=fun X hX=>by refine⟨fun y=>if y=v+r then 0 else X y,if_pos rfl,fun y hy=>if_neg (by omega),(hsE.sat _).2 ((Dic.aux_sat hw).2 fun i b l hb hl=>?_)⟩;rw[if_pos rfl,Rat.mul_zero,Rat.add_zero,if_neg (by have:=hy b (.inl (List.mem_of_getElem? hb));omega),hX i b l hb hl];exact kN fun y hym=>(if_neg (by have:=hy y (.inr hym);omega)).symm);dsimp only;split
  ·(rename_i hc;have hab:v+r∈E.bs:=Classical.byContradiction fun q=>by rw[zJC q (haE.resolve_left q)] at hc;exact absurd hc (by decide));have hg:=wW (wV hab);obtain⟨i,hi⟩:∃ i:Nat,wQ E.bs (v+r)=i:=⟨(wQ E.bs (v+r)).toNat,by have:=wV hab;omega⟩;rw[hi,Int.toNat_natCast] at hg;obtain⟨l,hl⟩:=zV (l:=E.fs) (i:=i) (by rw[hwE.len];exact yT hg);have hv:=b8 hi hl;rw[hv] at hbounded hc ⊢;have hanb:v+r∉E.nb:=fun q=>hwE.ne hab q;have hlt:∀ j,j<E.nb.length->E.nb.getD j 0<v+r:=fun j hj=>by have h3:=(hsE.vars _).1 (.inr (y4 (d:=0) hj));have h4:E.nb.getD j 0∈D.bs\/E.nb.getD j 0∈D.nb++[v+r]:=h3;rcases h4 with q|q;{exact hy _ (.inl q)};{rcases List.mem_append.1 q with q|q;{exact hy _ (.inr q)};{simp only[List.mem_singleton] at q;exact absurd (q ▸ y4 (d:=0) hj) hanb}}
   refine⟨rfl,by show q<=_;omega,(fun h=>by cases h),fun l' hl'=>?_⟩;simp only[Option.some.injEq] at hl';subst hl';refine⟨pW,zGA fun j hj hjv=>zDE hbounded hj hjv,l.getD E.nb.length 0,hc,fun X hX=>?_⟩;obtain⟨Y,hY0,hYX,hYs⟩:=hX0 X hX;have hd:=zDJ (v:=v) (r:=r) (nb:=E.nb) (l:=l) (X:=Y) hwE.nb (fun j hj hno=>.inl (by
    (have h3:=hlt j hj;have h4:E.nb.getD j 0<v:=by omega);have:=h0E j (by omega) hj h4 i (yT hg) (by rw[getD_some hg];omega)
    unfold Dic.at at this;rw[getD_some hl] at this;exact this))
   rw[<-hYs i _ l hg hl,hY0] at hd;rw[gQ (g:=fun k=>Y (v+k)) (fun k hk=>(hYX (v+k) (by rw[pW] at hk;omega)).symm)];exact hd.symm
  ·rename_i hc;split
   ·rename_i hb0;have hab:v+r∈E.bs:=List.mem_of_getElem? (wW hb0);have hg:=wW hb0;obtain⟨i,hi⟩:∃ i:Nat,wQ E.bs (v+r)=i:=⟨(wQ E.bs (v+r)).toNat,by omega⟩;rw[hi,Int.toNat_natCast] at hg ⊢;obtain⟨l,hl⟩:=zV (l:=E.fs) (i:=i) (by rw[hwE.len];exact yT hg);have hv:=b8 hi hl;have hil:=yT hg;have hll:=hwE.row i l hl;rw[hv] at hc;have hci:E.cst i=0:=by
     (have h3:=hfe i hil (by rw[getD_some hg];simp[frV]);have h4:E.cst i=l.getD E.nb.length 0:=by unfold Dic.cst;rw[getD_some hl]);grind
    obtain⟨j0,hj0,hj1⟩:=m6 (v:=v) hw h1 h2 hwE hsE hg;have hnz:=tY (l.take E.nb.length) 0 (by unfold Dic.at at hj1;rw[getD_some hl] at hj1;refine⟨l.getD j0 0,List.mem_of_getElem? (i:=j0) ?_,hj1⟩;rw[List.getElem?_take_of_lt hj0];exact yM (by omega));rw[getD_some hl];obtain⟨n1,n2,x,n3,n4⟩:=hnz;rw[Nat.sub_zero] at n3;generalize (sW (l.take E.nb.length) 0).toNat=j at *
    (have hjl:j<E.nb.length:=by have:=yT n3;rw[List.length_take] at this;omega);rw[List.getElem?_take_of_lt hjl] at n3
    (have hatj:E.at i j≠0:=by unfold Dic.at;rw[getD_some hl,getD_some n3];exact n4);have hpF:Pvs (D.aux v (v+r)) (E.piv i j):=.step hpE hil hjl hatj
    (have hwF:=hpF.wf hwa;have hgF:(E.piv i j).nb[j]?=some (v+r):=by show (E.nb.set j (E.bs.getD i 0))[j]?=_;rw[List.getElem?_set,if_pos rfl,if_pos hjl,getD_some hg]);have hnF:(E.piv i j).nb.length=D.nb.length+1:=(Dic.piv_nl _ _ _).trans hnE;have hidx:(wQ (E.piv i j).nb (v+r)).toNat=j:=v6 hwF.nb (wW (wV (List.mem_of_getElem? hgF))) hgF;have h0F:=Dic.rel0_piv hwE hil hjl (by rw[getD_some hg];omega) h0E;have hfF:(E.piv i j).feas (frV v):=fun k hk hfk=>by
     (rw[Dic.piv_bl] at hk;have e1:(E.piv i j).cst k=(E.piv i j).at k E.nb.length:=by show (E.piv i j).at k (E.piv i j).nb.length=_;rw[Dic.piv_nl]);have e2:E.at i E.nb.length=0:=hci;rw[e1];by_cases hki:k=i
     {subst hki;rw[Dic.piv_at_r hwE hil hjl (Nat.le_refl _),if_neg (by omega),e2,Rat.div_def];grind};{rw[Dic.piv_at hwE hil hjl hk hki (Nat.le_refl _),if_neg (by omega),if_neg (by omega),e2,Rat.div_def];rw[Dic.piv_bs_get hil,if_neg hki] at hfk;have:=hfe k hk hfk;have e3:E.at k E.nb.length=E.cst k:=rfl;rw[e3];grind}
    refine⟨rfl,by show q+1<=_;omega,fun _=>?_,fun l hl=>by cases hl⟩;show Feas v D ((E.piv i j).del (wQ (E.piv i j).nb (v+r)).toNat);rw[hidx];exact zDC hw h1 h2 hwF (hpF.same hwa) (fun X hX=>hpF.val hwa hX) hfF (by rw[hnF];exact h0F) hnF hgF
   {rename_i hb0;have han:v+r∈E.nb:=haE.resolve_left fun w=>hb0 (wV w);refine⟨rfl,by show q<=_;omega,fun _=>?_,fun l hl=>by cases hl⟩;exact zDC hw h1 h2 hwE hsE hvE hfe (by rw[hnE];exact h0E) hnE (wW (wV han))}
theorem dR {v:Nat}{ln:Dic->List Rat}:∀ (f:Nat) (D:Dic) (p:Nat),Pvs D (vI v ln f D p).1/\(p<=65537->(vI v ln f D p).2.1<=65537)
 |0,D,p=>⟨.refl,fun h=>h⟩| f+1,D,p=>by
  rw[vI];split
  ·rename_i hq;split;{exact⟨.refl,fun h=>h⟩}
   ·rename_i h1;split;{exact⟨.refl,fun h=>h⟩}
    ·(rename_i h2;have hs:=zDP (v:=v) (D:=D) (l:=ln D) (by omega) (by omega);have hne:D.at (lvR v (ent v D.nb (ln D)).toNat D).toNat (ent v D.nb (ln D)).toNat≠0:=by have:=hs.rneg;grind);have ih:=dR (v:=v) (ln:=ln) f (D.piv (lvR v (ent v D.nb (ln D)).toNat D).toNat (ent v D.nb (ln D)).toNat) (p+1)
     exact⟨(Pvs.step .refl hs.hr hs.he hne).trans ih.1,fun _=>ih.2 (by omega)⟩
  {exact⟨.refl,fun h=>h⟩}
structure SolR where
 st:Nat
 val:Rat
 pt:List Rat
 du:List Rat
 ry:List Rat
 bas:List Nat
 pv:Nat
def dE (v:Nat) (ob:List Rat):List Nat->Nat->Option Nat
 |[],_=>none| y::ys,e=>if y<v/\ob.getD e 0≠0 then some e else dE v ob ys (e+1)
def cD (v r:Nat) (D0:Dic):Option SolR :=
 match vU v r (rel v D0.nb 0 (D0,0)).1 (rel v D0.nb 0 (D0,0)).2 with
 |(_,_,_,false)=>none| (_,q,some l,true)=>some ⟨2,0,[],l,[],[],q⟩| (E,q,none,true) =>
  match dE v E.ob E.nb 0 with
  |some e=>some ⟨3,0,pnt v E,[],cG v E e (((-(xJ (E.ob.getD e 0)):Int):Rat)),[],q⟩| none =>
   match vI v Dic.ob (65537-q) E q with
   |(_,_,_,false)=>none| (F,q',e,true)=>if 0<=e then some ⟨3,0,pnt v F,[],cG v F e.toNat 1,[],q'⟩ else some ⟨1,F.ob.getD F.nb.length 0,pnt v F,pX v r F.nb F.ob,[],F.bs,q'⟩
theorem mV {v:Nat}{ob:List Rat}{nb:List Nat}:∀ {ys:List Nat} {j e:Nat},nb.drop j=ys->dE v ob ys j=some e->e<nb.length/\nb.getD e 0<v/\ob.getD e 0≠0
 |[],j,e,hd,h=>by cases h
 |y::ys,j,e,hd,h=>by
  rw[dE] at h;have hy:nb[j]?=some y:=by
   (have h1:(nb.drop j)[0]?=some y:=by rw[hd];rfl);rw[List.getElem?_drop,Nat.add_zero] at h1
   exact h1
  split at h;{rename_i hc;cases h;exact⟨yT hy,by rw[getD_some hy];exact hc.1,hc.2⟩};{exact mV (by rw[<-List.tail_drop,hd];rfl) h}
theorem mW {v:Nat}{ob:List Rat}{nb:List Nat}:∀ {ys:List Nat} {j:Nat},nb.drop j=ys->dE v ob ys j=none->∀ e,j<=e->e<nb.length->nb.getD e 0<v->ob.getD e 0=0
 |[],j,hd,h,e,hje,he,hv=>by have:=congrArg List.length hd;simp at this;omega| y::ys,j,hd,h,e,hje,he,hv=>by
  rw[dE] at h;have hy:nb[j]?=some y:=by
   (have h1:(nb.drop j)[0]?=some y:=by rw[hd];rfl);rw[List.getElem?_drop,Nat.add_zero] at h1
   exact h1
  split at h;{cases h};{rename_i hc;by_cases hej:e=j;{subst hej;rw[getD_some hy] at hv;exact Classical.byContradiction fun q=>hc ⟨hv,q⟩};{exact mW (by rw[<-List.tail_drop,hd];rfl) h e (by omega) he hv}}
theorem tT {v:Nat}{f:Nat->Rat}{bs:List Nat}(hn:bs.Nodup):∀ {ys:List Nat} {i:Nat} {x:List Rat},bs.drop i=ys->x.length=v->∀ j,j<v ->(f5 v f ys i x).getD j 0=if j∈ys then f (bs.idxOf j) else x.getD j 0
 |[],i,x,hd,hx,j,hj=>by simp[f5]| b::ys,i,x,hd,hx,j,hj=>by
  have hb:bs[i]?=some b:=by
   (have h1:(bs.drop i)[0]?=some b:=by rw[hd];rfl);rw[List.getElem?_drop,Nat.add_zero] at h1
   exact h1
  (have hd':bs.drop (i+1)=ys:=by rw[<-List.tail_drop,hd];rfl);have hnd:(b::ys).Nodup:=by rw[<-hd];exact (List.drop_sublist _ _).nodup hn
  have hidx:bs.idxOf b=i:=by
   (have h2:b∈bs:=List.mem_of_getElem? hb;have h3:bs[bs.idxOf b]?=some b:=by rw[List.getElem?_eq_getElem (List.idxOf_lt_length_iff.2 h2),List.getElem_idxOf]);exact v6 hn h3 hb
  rw[f5,tT hn hd' (by split <;> simp[hx]) j hj];by_cases hjb:j=b;{subst hjb;rw[if_neg (List.nodup_cons.1 hnd).1,if_pos List.mem_cons_self,if_pos hj,List.getD_eq_getElem?_getD,List.getElem?_set,if_pos rfl,if_pos (by omega),hidx];rfl};{by_cases hjy:j∈ys;{rw[if_pos hjy,if_pos (List.mem_cons_of_mem _ hjy)]};{rw[if_neg hjy,if_neg (fun q=>(List.mem_cons.1 q).elim hjb hjy)];split;{rw[List.getD_eq_getElem?_getD,List.getElem?_set_ne (fun q=>hjb q.symm),List.getD_eq_getElem?_getD]};{rfl}}}
theorem tQ {v:Nat}{f:Nat->Rat}:∀ {ys:List Nat} {i:Nat} {x:List Rat},(f5 v f ys i x).length=x.length
 |[],_,_=>rfl| b::ys,i,x=>by rw[f5,tQ];split <;> simp
theorem zLD {v:Nat}{D:Dic}:(pnt v D).length=v:=by unfold pnt;rw[tQ,List.length_replicate]
theorem zIH {v e:Nat}{D:Dic}{k:Rat}:(cG v D e k).length=v:=by unfold cG;rw[tQ];split <;> simp
section
variable {D:Dic} {v:Nat}
theorem Dic.idx_bs {j:Nat}(h:j∈D.bs):D.bs[D.bs.idxOf j]?=some j:=by rw[List.getElem?_eq_getElem (List.idxOf_lt_length_iff.2 h),List.getElem_idxOf]
theorem zLE (h:D.wf){j:Nat}(hj:j<v)(hm:j∈D.bs\/j∈D.nb):(pnt v D).getD j 0=D.ext (fun _=>0) j:=by unfold pnt;rw[tT (bs:=D.bs) (ys:=D.bs) (i:=0) h.bs rfl (by simp) j hj];by_cases hb:j∈D.bs;{rw[if_pos hb,<-Dic.zero_bs h (y:=D.ext fun _=>0) (fun y hy=>Dic.ext_nb h _ hy) (Dic.idx_bs hb) (Dic.ext_sat h _)]};{rw[if_neg hb,Dic.ext_nb h _ (hm.resolve_left hb),List.getD_eq_getElem?_getD,List.getElem?_replicate];split <;> rfl}
def Dic.bas (D:Dic) (e:Nat) (k:Rat):Nat->Rat:=D.ext fun u=>if u=D.nb.getD e 0 then k else 0
theorem Dic.bas_sat (h:D.wf)(e:Nat)(k:Rat):D.Sat (D.bas e k):=Dic.ext_sat h _
theorem Dic.bas_nb (h:D.wf){e j:Nat}{k:Rat}(he:e<D.nb.length)(hj:j<D.nb.length):D.bas e k (D.nb.getD j 0)=if j=e then k else 0:=by unfold Dic.bas;rw[Dic.ext_nb h _ (y4 hj)];by_cases hje:j=e;{rw[if_pos hje,hje,if_pos rfl]};{rw[if_neg hje,if_neg fun q=>hje (v6 h.nb (yM hj) (by rw[q];exact yM he))]}
theorem Dic.bas_bs (h:D.wf){e i:Nat}{k:Rat}(he:e<D.nb.length)(hi:i<D.bs.length):D.bas e k (D.bs.getD i 0)=D.at i e*k+D.cst i:=by have:=Dic.one_bs h (y:=D.bas e k) he (fun j hj hne=>by rw[Dic.bas_nb h he hj,if_neg hne]) (yM (d:=0) hi) (Dic.bas_sat h e k);rw[this,Dic.bas_nb h he he,if_pos rfl]
theorem Dic.bas0 (h:D.wf)(e:Nat):D.bas e 0=D.ext fun _=>0:=by unfold Dic.bas;congr 1;funext u;split <;> rfl
theorem zII (h:D.wf){e j:Nat}{k:Rat}(he:e<D.nb.length)(hj:j<v)(hm:j∈D.bs\/j∈D.nb):(cG v D e k).getD j 0=D.bas e k j-D.ext (fun _=>0) j:=by
 have hx:(if D.nb.getD e 0<v then (List.replicate v (0:Rat)).set (D.nb.getD e 0) k else List.replicate v 0).length=v:=by split <;> simp
 unfold cG;rw[tT (bs:=D.bs) (ys:=D.bs) (i:=0) h.bs rfl hx j hj];by_cases hb:j∈D.bs;{have hi:=Dic.idx_bs hb;have hil:=yT hi;have e1:=Dic.bas_bs h (k:=k) he hil;have e0:=Dic.bas_bs h (k:=0) he hil;rw[Dic.bas0 h] at e0;rw[getD_some hi] at e1 e0;rw[if_pos hb,e1,e0];grind}
 ·have hmn:=hm.resolve_left hb;rw[if_neg hb,Dic.ext_nb h _ hmn];obtain⟨q,hq⟩:=wL hmn;have hql:=yT hq;have e1:=Dic.bas_nb h (k:=k) he hql;rw[getD_some hq] at e1;rw[e1];by_cases hqe:q=e
  ·(have hje:D.nb.getD e 0=j:=by rw[<-hqe,getD_some hq]);rw[if_pos hqe,hje,if_pos hj,List.getD_eq_getElem?_getD,List.getElem?_set,if_pos rfl,if_pos (by simpa using hj)]
   simp only[Option.getD_some];grind
  {have hje:D.nb.getD e 0≠j:=fun w=>hqe (v6 h.nb hq (by rw[<-w];exact yM he));rw[if_neg hqe];split;{rw[List.getD_eq_getElem?_getD,List.getElem?_set_ne hje,List.getElem?_replicate];split <;> simp <;> grind};{rw[List.getD_eq_getElem?_getD,List.getElem?_replicate];split <;> simp <;> grind}}
end
def yQ (v:Nat) (rows:List (List Rat)) (ob:List Rat):Dic:=⟨(List.range rows.length).map (v+·),List.range v,rows,ob⟩
theorem rQ {v k:Nat}{rows:List (List Rat)}{ob:List Rat}(hk:k<rows.length):(yQ v rows ob).bs[k]?=some (v+k):=by show ((List.range rows.length).map (v+·))[k]?=_;rw[List.getElem?_map,List.getElem?_range hk];rfl
theorem rP {v:Nat}{rows:List (List Rat)}{ob:List Rat}(hr:∀ l,l∈rows->l.length=v+1)(ho:ob.length=v+1):(yQ v rows ob).wf where
 len:=by simp[yQ]
 row i l hl:=by rw[hr l (List.mem_of_getElem? hl)];simp[yQ]
 ob:=by rw[show (yQ v rows ob).ob=ob from rfl,ho];simp[yQ]
 nd:=by show ((List.range rows.length).map (v+·)++List.range v).Nodup;rw[List.nodup_append];refine⟨List.Pairwise.map _ (fun a b (h:a≠b)=>(by omega:v+a≠v+b)) List.nodup_range,List.nodup_range,fun x hx y hy e=>?_⟩;obtain⟨k,_,rfl⟩:=List.mem_map.1 hx;have:=List.mem_range.1 hy;omega
def atX (v:Nat) (x:Nat->Rat) (l:List Rat):Rat:=dot x (List.range v) l
theorem aB {v:Nat}{rows:List (List Rat)}{ob:List Rat}{X:Nat->Rat}:(yQ v rows ob).Sat X↔∀ (k:Nat) l,rows[k]?=some l->X (v+k)=atX v X l:=by constructor;{intro h k l hl;exact h k (v+k) l (rQ (yT hl)) hl};{intro h k b l hb hl;have hl':rows[k]?=some l:=hl;rw[rQ (yT hl')] at hb;cases hb;exact h k l hl'}
theorem aU {v:Nat}{x y:Nat->Rat}{l:List Rat}(h:∀ j,j<v->x j=y j):atX v x l=atX v y l:=kN fun j hj=>h j (List.mem_range.1 hj)
def full (v:Nat) (rows:List (List Rat)) (x:Nat->Rat):Nat->Rat:=fun y=>if y<v then x y else atX v x (rows.getD (y-v) [])
theorem zF5 {v j:Nat}{rows:List (List Rat)}{x:Nat->Rat}(h:j<v):full v rows x j=x j:=if_pos h
theorem s5 {v k:Nat}{rows:List (List Rat)}{x:Nat->Rat}{l:List Rat}(h:rows[k]?=some l):full v rows x (v+k)=atX v x l:=by unfold full;rw[if_neg (by omega),show v+k-v=k by omega,getD_some h]
theorem iR {v:Nat}{rows:List (List Rat)}{ob:List Rat}{x:Nat->Rat}:(yQ v rows ob).Sat (full v rows x):=aB.2 fun k l hl=>by rw[s5 hl];exact aU fun j hj=>(zF5 hj).symm
theorem zIU {v:Nat}{rows:List (List Rat)}{ob:List Rat}{x:Nat->Rat}:(yQ v rows ob).val (full v rows x)=atX v x ob:=aU fun j hj=>zF5 hj
def toX (l:List Rat):Nat->Rat:=fun j=>l.getD j 0
structure SolOk (v:Nat) (rows:List (List Rat)) (ob:List Rat) (s:SolR):Prop where
 opt:s.st=1->s.pt.length=v/\(∀ l,l∈rows->0<=atX v (toX s.pt) l)/\atX v (toX s.pt) ob=s.val/\s.du.length=rows.length/\(∀ c,c∈s.du->0<=c)/\(∀ x:Nat->Rat,atX v x ob=jR s.du (fun k=>atX v x (rows.getD k []))+s.val)/\s.ry=[]
 inf:s.st=2->s.pt=[]/\s.ry=[]/\s.val=0/\s.du.length=rows.length/\(∀ c,c∈s.du->0<=c)/\∃ k:Rat,0<k/\∀ x:Nat->Rat,jR s.du (fun k=>atX v x (rows.getD k []))+k=0
 unb:s.st=3->s.du=[]/\s.val=0/\s.pt.length=v/\s.ry.length=v/\(∀ l,l∈rows->0<=atX v (toX s.pt) l)/\(∀ l,l∈rows->0<=atX v (toX s.ry) l-atX v (fun _=>0) l)/\atX v (toX s.ry) ob-atX v (fun _=>0) ob<0
 one:s.st=1\/s.st=2\/s.st=3
theorem zGE {X Y Z W:Nat->Rat}:∀ {nb:List Nat} {l:List Rat},(∀ y,y∈nb->X y-Y y=Z y-W y)->dot X nb l-dot Y nb l=dot Z nb l-dot W nb l
 |[],l,h=>by unfold dot;rw[Rat.sub_self]| v::vs,l,h=>by
  have ih:=zGE (l:=l.tail) fun y hy=>h y (List.mem_cons_of_mem _ hy);have h0:=h v List.mem_cons_self;simp only[dot];generalize dot X vs l.tail=a at *
  generalize dot Y vs l.tail=b at *
  generalize dot Z vs l.tail=c at *
  generalize dot W vs l.tail=d at *
  (have:l.headD 0*(X v-Y v)=l.headD 0*(Z v-W v):=by rw[h0]);grind
section
variable {v:Nat} {rows:List (List Rat)} {ob:List Rat} {E:Dic}
theorem zJQ (hr:∀ l,l∈rows->l.length=v+1)(ho:ob.length=v+1)(hE:Feas v (yQ v rows ob) E):(pnt v E).length=v/\(∀ (j:Nat),j<v->toX (pnt v E) j=E.ext (fun _=>0) j)/\(∀ l,l∈rows->0<=atX v (toX (pnt v E)) l)/\atX v (toX (pnt v E)) ob=E.ob.getD E.nb.length 0/\(∀ (k:Nat) l,rows[k]?=some l->atX v (toX (pnt v E)) l=E.ext (fun _=>0) (v+k)):=by
 have hmem:∀ j,j<v->j∈E.bs\/j∈E.nb:=fun j hj=>(hE.same.vars j).2 (.inr (List.mem_range.2 hj));have hpt:∀ (j:Nat),j<v->toX (pnt v E) j=E.ext (fun _=>0) j:=fun j hj=>zLE hE.wf hj (hmem j hj);have hQ:=(hE.same.sat _).1 (Dic.ext_sat hE.wf fun _=>0);have hrow:∀ (k:Nat) l,rows[k]?=some l->atX v (toX (pnt v E)) l=E.ext (fun _=>0) (v+k):=fun k l hl=>by rw[aB.1 hQ k l hl];exact aU hpt
 refine⟨zLD,hpt,fun l hl=>?_,?_,hrow⟩;{obtain⟨k,hk⟩:=wL hl;rw[hrow k l hk];rcases (hE.same.vars (v+k)).2 (.inl (List.mem_of_getElem? (rQ (v:=v) (ob:=ob) (yT hk)))) with q|q;{have hi:=Dic.idx_bs q;rw[Dic.zero_bs hE.wf (fun y hy=>Dic.ext_nb hE.wf _ hy) hi (Dic.ext_sat hE.wf _)];exact hE.feas _ (yT hi) (by rw[getD_some hi];simp[frV])};{rw[Dic.ext_nb hE.wf _ q];exact Rat.le_refl}};{have e1:atX v (toX (pnt v E)) ob=(yQ v rows ob).val (E.ext fun _=>0):=aU hpt;rw[e1,<-hE.val _ hQ];exact jY fun y hy=>Dic.ext_nb hE.wf _ hy}
theorem zJP (hr:∀ l,l∈rows->l.length=v+1)(ho:ob.length=v+1)(hE:Feas v (yQ v rows ob) E){e:Nat}{k:Rat}(he:e<E.nb.length)(hk:E.ob.getD e 0*k<0)(hs:v<=E.nb.getD e 0->0<=k)(hc:∀ i,i<E.bs.length->v<=E.bs.getD i 0->0<=E.at i e*k):(cG v E e k).length=v/\(∀ l,l∈rows->0<=atX v (toX (cG v E e k)) l-atX v (fun _=>0) l)/\atX v (toX (cG v E e k)) ob-atX v (fun _=>0) ob<0:=by
 have hmem:∀ j,j<v->j∈E.bs\/j∈E.nb:=fun j hj=>(hE.same.vars j).2 (.inr (List.mem_range.2 hj));have hry:∀ (j:Nat),j<v->toX (cG v E e k) j=E.bas e k j-E.ext (fun _=>0) j:=fun j hj=>zII hE.wf he hj (hmem j hj);have hP:=(hE.same.sat _).1 (Dic.bas_sat hE.wf e k);have hQ:=(hE.same.sat _).1 (Dic.ext_sat hE.wf fun _=>0);have hdiff:∀ l,atX v (toX (cG v E e k)) l-atX v (fun _=>0) l=atX v (E.bas e k) l-atX v (E.ext fun _=>0) l:=fun l=>zGE fun y hy=>by rw[hry y (List.mem_range.1 hy)];grind
 refine⟨zIH,fun l hl=>?_,?_⟩;{obtain⟨q,hq⟩:=wL hl;rw[hdiff,<-aB.1 hP q l hq,<-aB.1 hQ q l hq];rcases (hE.same.vars (v+q)).2 (.inl (List.mem_of_getElem? (rQ (v:=v) (ob:=ob) (yT hq)))) with w|w;{have hi:=Dic.idx_bs w;have hil:=yT hi;have e1:=Dic.bas_bs hE.wf (k:=k) he hil;have e0:=Dic.bas_bs hE.wf (k:=0) he hil;rw[Dic.bas0 hE.wf] at e0;rw[getD_some hi] at e1 e0;rw[e1,e0];have:=hc _ hil (by rw[getD_some hi];omega);grind};{obtain⟨j,hj⟩:=wL w;have hjl:=yT hj;have e1:=Dic.bas_nb hE.wf (k:=k) he hjl;rw[getD_some hj] at e1;rw[e1,Dic.ext_nb hE.wf _ w];by_cases hje:j=e;{rw[if_pos hje];have:=hs (by rw[<-hje,getD_some hj];omega);grind};{rw[if_neg hje];grind}}}
 ·(rw[hdiff];have e1:atX v (E.bas e k) ob=E.val (E.bas e k):=(hE.val _ hP).symm;have e0:atX v (E.ext fun _=>0) ob=E.val (E.ext fun _=>0):=(hE.val _ hQ).symm;rw[e1,e0];have h1:E.val (E.bas e k)=E.ob.getD e 0*k+E.ob.getD E.nb.length 0:=by have:=cN (X:=E.bas e k) (nb:=E.nb) (l:=E.ob) (e:=e) hE.wf.nb he (fun j hj hne=>by rw[Dic.bas_nb hE.wf he hj,if_neg hne]);rw[Dic.bas_nb hE.wf he he,if_pos rfl] at this;exact this);have h0:E.val (E.ext fun _=>0)=E.ob.getD E.nb.length 0:=jY fun y hy=>Dic.ext_nb hE.wf _ hy;rw[h1,h0];grind
end
theorem zH6 {v:Nat}{rows:List (List Rat)}{ob:List Rat}(hr:∀ l,l∈rows->l.length=v+1)(ho:ob.length=v+1)(hp:v+1+2^(rows.length+1)+2^rows.length<=65537):∃ s,cD v rows.length (yQ v rows ob)=some s/\SolOk v rows ob s/\s.pv<=65536:=by
 have hw0:=rP hr ho;have hnl:(yQ v rows ob).nb.length=v:=by simp[yQ]
 have hrel:=bJ (v:=v) hw0 (yQ v rows ob).nb 0 (yQ v rows ob,0) rfl (Nat.zero_le _) .refl (fun e he=>absurd he (by omega));unfold cD;generalize rel v (yQ v rows ob).nb 0 (yQ v rows ob,0)=R1 at *
 obtain⟨D1,p1⟩:=R1;obtain⟨q1,q2,q3⟩:=hrel;dsimp only at q1 q2 q3 ⊢;rw[hnl] at q2 q3;have hw1:=q1.wf hw0;have hs1:=q1.same hw0;have hl1:=q1.len;have hpos:0<2^rows.length:=Nat.pow_pos (by decide);have hy1:∀ y,y∈D1.bs\/y∈D1.nb->y<v+rows.length:=fun y hy=>by rcases (hs1.vars y).1 hy with q|q;{obtain⟨k,hk,rfl⟩:=List.mem_map.1 q;have:=List.mem_range.1 hk;omega};{have:=List.mem_range.1 q;omega}
 have hf:=zF8 (v:=v) (r:=rows.length) (p:=p1) hw1 (by rw[hl1.2,hnl];exact q2) hy1 (by omega);generalize vU v rows.length D1 p1=R2 at *
 obtain⟨E,q,ref,ok⟩:=R2;have hok:=hf.ok;have hfew:=hf.few;dsimp only at hok hfew;subst hok;cases ref with
 |some l =>
  obtain⟨a1,a2,k,a3,a4⟩:=hf.some l rfl;refine⟨_,rfl,⟨fun h=>absurd h (by simp),fun _=>⟨rfl,rfl,rfl,a1,a2,k,a3,fun x=>?_⟩,fun h=>absurd h (by simp),.inr (.inl rfl)⟩,by show q<=65536;omega⟩;have:=a4 _ ((hs1.sat _).2 (iR (ob:=ob) (x:=x)));rw[gQ (g:=fun k=>atX v x (rows.getD k [])) (fun k hk=>by obtain⟨l',hl'⟩:=zV (show k<rows.length by omega);rw[s5 hl',getD_some hl'])] at this;exact this
 |none =>
  have hE1:=hf.none rfl;dsimp only at hE1;have hE:Feas v (yQ v rows ob) E:=⟨hE1.wf,hE1.same.trans hs1,fun X hX=>(hE1.val X ((hs1.sat X).2 hX)).trans (q1.val hw0 hX),hE1.feas,hE1.rel0,hE1.nl.trans hl1.2⟩;dsimp only;cases hfr:dE v E.ob E.nb 0 with
  |some e =>
   obtain⟨f1,f2,f3⟩:=mV (nb:=E.nb) (ys:=E.nb) (j:=0) rfl hfr;have hpo:=zJQ hr ho hE;have hk:E.ob.getD e 0*(((-(xJ (E.ob.getD e 0)):Int)):Rat)<0:=by
    generalize E.ob.getD e 0=c at *
    unfold xJ;by_cases h1:c<0;{rw[if_pos h1];simp;exact h1};{by_cases h2:0<c;{rw[if_neg h1,if_pos h2];simp;grind};{exact absurd (Rat.le_antisymm (Rat.not_lt.1 h2) (Rat.not_lt.1 h1)) f3}}
   have hra:=zJP hr ho hE f1 hk (fun h=>absurd f2 (by omega)) (fun i hi hiv=>by rw[hE.rel0 e f1 f1 f2 i hi hiv,Rat.zero_mul];exact Rat.le_refl);exact⟨_,rfl,⟨fun h=>absurd h (by simp),fun h=>absurd h (by simp),fun _=>⟨rfl,rfl,hpo.1,hra.1,hpo.2.2.1,hra.2.1,hra.2.2⟩,.inr (.inr rfl)⟩,by show q<=65536;omega⟩
  |none =>
   have hfz:∀ j,j<E.nb.length->E.nb.getD j 0<v->E.ob.getD j 0=0:=fun j hj hjv=>mW (nb:=E.nb) (ys:=E.nb) (j:=0) rfl hfr j (Nat.zero_le _) hj hjv;have hyE:∀ y,y∈E.bs\/y∈E.nb->y<v+rows.length:=fun y hy=>hy1 y ((hE1.same.vars y).1 hy);have hz:∀ F,Pvs E F->∀ X,F.Sat X->E.val X=dot X F.nb F.ob:=fun F hF X hX=>(hF.val hE.wf (((hF.same hE.wf).sat X).1 hX)).symm;obtain⟨hm,hmo,hmf,hmw⟩:=oY (v:=v) (z:=E.val) (ln:=Dic.ob) (p0:=q) (M:=rows.length) hE.wf hE.feas hz hyE (by omega);generalize vI v Dic.ob (65537-q) E q=R3 at *
   (obtain⟨F,q',e,ok⟩:=R3;dsimp only at hmo hmf hmw ⊢;subst hmo;have hpF:=hm.pvs;dsimp only at hpF;have hwF:=hpF.wf hE.wf;have hsF:=hpF.same hE.wf;have hlF:=hpF.len;have hzero:∀ (G:Dic),G.rel0 v E.nb.length/\G.nb.length=E.nb.length->True:=fun _ _=>trivial;obtain⟨n,⟨Ds,ls,rs,es,hB,e0,en,el⟩,hn⟩:=hm.run;dsimp only at en el;have h0F:F.rel0 v E.nb.length:=by have:=BRun.rel0 (m:=E.nb.length) hB (by rw[e0];exact hE.rel0) n (Nat.le_refl _);rw[en] at this;exact this);have hF:Feas v (yQ v rows ob) F:=⟨hwF,hsF.trans hE.same,fun X hX=>(hpF.val hE.wf ((hE.same.sat X).2 hX)).trans (hE.val X hX),hmf,by rw[hlF.2];exact h0F,hlF.2.trans hE.nl⟩;have hpo:=zJQ hr ho hF
   
   have hob:∀ i,i<=n->(∀ j,j<(Ds i).nb.length->(Ds i).nb.getD j 0<v->(Ds i).ob.getD j 0=0)/\(Ds i).rel0 v E.nb.length/\(Ds i).nb.length=E.nb.length:=by
    intro i;induction i with
    |zero=>intro _;rw[e0];exact⟨hfz,hE.rel0,rfl⟩| succ i ih =>
     (intro hi;obtain⟨i1,i2,i3⟩:=ih (by omega);have s:=hB.step i (by omega);have hwi:=hB.wf i (by omega);have hrv:v<=(Ds i).bs.getD (rs i) 0:=by have:=s.1.rfr;simpa[frV] using this);rw[s.2]
     refine⟨fun j hj hjv=>?_,Dic.rel0_piv hwi s.1.hr s.1.he hrv i2,(Dic.piv_nl _ _ _).trans i3⟩;rw[Dic.piv_nl] at hj;rw[Dic.piv_nb_get s.1.he] at hjv;by_cases hje:j=es i;{rw[if_pos hje] at hjv;omega};{rw[if_neg hje] at hjv;rw[Dic.piv_ob hwi s.1.hr s.1.he (by omega),if_neg hje,if_neg hje,i1 j hj hjv,i2 j (by omega) hj hjv _ s.1.hr hrv,Rat.neg_zero,Rat.div_def,Rat.zero_mul,Rat.mul_zero,Rat.add_zero]}
   have hobF:=(hob n (Nat.le_refl _)).1;rw[en] at hobF;have hres:=hm.ok rfl;dsimp only at hres ⊢;split;{rename_i he;rcases hres.2 with w|⟨w1,w2,w3⟩;{rw[w.1] at he;exact absurd he (by decide)};{rw[w2] at w3 ⊢;obtain⟨k1,k2,k3⟩:=aN (by rw[<-w2];exact w1);have hra:=zJP hr ho hF (k:=1) k1 (by rw[Rat.mul_one];exact k3) (fun _=>by decide) (fun i hi hiv=>by rw[Rat.mul_one];exact zCU w3 hi hiv);exact⟨_,rfl,⟨fun h=>absurd h (by simp),fun h=>absurd h (by simp),fun _=>⟨rfl,rfl,hpo.1,hra.1,hpo.2.2.1,hra.2.1,hra.2.2⟩,.inr (.inr rfl)⟩,by show q'<=65536;omega⟩}}
   ·(rename_i he;have hent:ent v F.nb F.ob<0:=by rcases hres.2 with w|⟨w1,w2,w3⟩;{exact w.2};{exact absurd w1 he});refine⟨_,rfl,⟨fun _=>⟨hpo.1,hpo.2.2.1,hpo.2.2.2.1,pW,zGA fun j hj hjv=>zDE hent hj hjv,fun x=>?_,rfl⟩,fun h=>absurd h (by simp),fun h=>absurd h (by simp),.inl rfl⟩,by show q'<=65536;omega⟩;have hX:=(hF.same.sat _).2 (iR (rows:=rows) (ob:=ob) (x:=x));have hv:=hF.val _ (iR (rows:=rows) (ob:=ob) (x:=x));rw[zIU] at hv;rw[<-hv];have hd:=zDJ (v:=v) (r:=rows.length) (nb:=F.nb) (l:=F.ob) (X:=full v rows x) hwF.nb (fun j hj hno=>.inl (by have h3:=hyE _ ((hsF.vars _).1 (.inr (y4 (d:=0) hj)));exact hobF j hj (by omega)))
    show dot (full v rows x) F.nb F.ob=_;rw[hd,gQ (g:=fun k=>atX v x (rows.getD k [])) (fun k hk=>by rw[pW] at hk;obtain⟨l',hl'⟩:=zV hk;rw[s5 hl',getD_some hl'])]
theorem zNP (x y:R):mkRat (sgn (x.neg != y.neg) (val x.num*y.d)) (x.d*val y.num)=x.q/y.q:=by rw[Rat.div_def,R.q,R.q,<-Rat.divInt_ofNat,<-Rat.divInt_ofNat,<-Rat.divInt_ofNat,Rat.inv_divInt,Rat.divInt_mul_divInt];unfold R.n sgn;cases x.neg <;> cases y.neg <;> simp[Rat.divInt_neg',Int.neg_mul,Int.mul_neg]
theorem jD {q:Rat}:xJ q=0↔q=0:=by unfold xJ;split <;> (try split) <;> constructor <;> grind
theorem zL0 (x:R)(hx:x.sz (2^36)):zM 130 [rv x] (rv (zS (-x.q))):=by
 refine sF Tryz.f130 ?_;have cc:=s161 ⟨!x.neg,x.num,x.den⟩ ⟨hx.n,hx.d⟩;rw[zKC] at cc;generalize zS (-x.q)=W at *
 obtain⟨a,b,c⟩:=x;generalize hna:(!a)=na at *
 cbv;refine wA rfl (by exact⟨⟨kM hna.symm,lR,lR,trivial⟩,trivial⟩) cc rfl ?_;cbv
 (refine rC ?_;cbv)
 exact okA
theorem zJ9 (x y:R)(hx:x.sz (2^34))(hy:y.sz (2^34))(h0:y.q≠0):zM 129 [rv x,rv y] (.tup [rv (zS (x.q/y.q)),.int .i64 (fun _=>(0:Int))]):=by
 refine sF Tryz.f129 ?_;have h1:=hx.n;have h2:=hx.d;have h3:=hy.n;have h4:=hy.d;have h7:=uD x.den;have h8:=uD y.den;have hyn:val y.num≠0:=fun h=>h0 (by
  (have:y.n=0:=by unfold R.n;rw[h];simp[sgn]);rw[R.q,this];simp)
 have csg:=s86 y (by omega);have hsg:¬xJ y.q=0:=fun h=>h0 (jD.1 h);have cux:=s195 x (by omega);have cuy:=s195 y (by omega);have cm:=s194 (y9 x.den) y.num (by omega) (by omega);have hml:=gB (y9 x.den) y.num;rw[vN] at cm hml;have cn:=s194 x.num (y9 y.den) (by omega) (by omega);have hnl:=gB x.num (y9 y.den);rw[vN] at cn hnl;have cq:=s193 (x.neg != y.neg) (zD (val x.num*y.d)) (zD (x.d*val y.num)) (by omega) (by omega) (by rw[zK];exact Nat.mul_ne_zero x.d_ne hyn);rw[zK,zK,zNP] at cq;have hb:(x.neg != y.neg)=!decide (x.neg=y.neg):=by cases x.neg <;> cases y.neg <;> rfl
 clear hml hnl hx hy h0;generalize zS (x.q/y.q)=W at *
 generalize xJ y.q=sg at *
 generalize zD (x.d*val y.num)=M at *
 generalize zD (val x.num*y.d)=P at *
 generalize y9 x.den=ux at *
 generalize y9 y.den=uy at *
 obtain⟨a,b,c⟩:=x;obtain⟨a',b',c'⟩:=y;simp only at *
 generalize (a != a')=nb at *
 cbv;refine cA csg ?_;cbv;refine eD hsg ?_;cbv;refine zZ 16 (by cbv) ?_;cbv;refine dA cuy ?_;cbv;refine dA cn ?_;cbv;refine dA cux ?_;cbv;refine dA cm ?_;cbv;refine cT (by exact⟨kM hb,lR,lR,trivial⟩) cq rfl ?_;cbv
 (refine rC ?_;cbv)
 exact okA
def cq (q:Rat):List PV:=[.bool (fun _=>(zS q).neg),nat (zS q).num,nat (zS q).den]
def ci (n:Nat):List PV:=[.int .i64 (fun _=>(n:Int))]
def tO (v r : Nat) (D : Dic) (p : Nat) : List (Nat × Obj') :=
  [(1000000, .box [.int .i64 (fun _ => (v : Int)), .int .i64 (fun _ => (r : Int)), .osl 1000001 1 (fun _ => 0) (fun _ => D.bs.length), .osl 1000002 1 (fun _ => 0) (fun _ => D.nb.length), .osl 1000003 1 (fun _ => 0) (fun _ => D.fs.length), .osl 1000004 3 (fun _ => 0) (fun _ => D.ob.length), .int .i64 (fun _ => (p : Int))]),
   (1000001, .arr 1 (fun _ => enc ci D.bs)), (1000002, .arr 1 (fun _ => enc ci D.nb)), (1000003, .mat 3 (fun _ => D.fs.map (enc cq)) []), (1000004, .arr 3 (fun _ => enc cq D.ob))]
theorem qF {rs:List ResultVar}{r:PV}{ps ps':PS}{kept:List (Nat×Obj')}(hw:Wk ps ps')(h3:lv r=true)(h4:v5 id ps'.objs kept)(h5:ndO (zW id kept)=true)(h6:iL id kept)(h:match gV ps' rs with
  |some l=>les (r8 l) (ren id r)| none=>False):RetOk rs r kept [] ps:=by
 cases h1:gV ps' rs with
 |none=>rw[h1] at h;exact h.elim| some l=>rw[h1] at h;exact⟨ps',l,id,hw,h1,fG h,h3,by rw[List.append_nil];exact h4,by rw[List.append_nil];exact h5,h6⟩
theorem iO:Pg.funcs[51]?=some Tryz.f51:=by rw[xX];rfl
theorem jM (v r:Nat)(D:Dic)(p:Nat)(x:Nat):Sound 51 [.ptr 1000000 0,.int .i64 (fun _=>(x:Int))] (tO v r D p) [] (.bool (fun _=>decide ((x:Int)<(v:Int)))) (tO v r D p) []:=by refine yH iO rfl rfl rfl rfl rfl ?_;cbv;refine qF (.refl _) rfl (by exact⟨⟨rfl,rfl⟩,⟨rfl,rfl⟩,⟨rfl,rfl⟩,⟨rfl,rfl⟩,⟨rfl,rfl⟩,trivial⟩) (by rfl) (by exact⟨⟨rfl,by omega⟩,⟨rfl,by omega⟩,⟨rfl,by omega⟩,⟨rfl,by omega⟩,⟨rfl,by omega⟩,trivial⟩) ?_;exact lR
end Go.Proofs.YtfainocfaddbdaaGreat
