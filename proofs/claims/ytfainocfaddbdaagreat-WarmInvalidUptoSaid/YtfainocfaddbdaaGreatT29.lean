/- A part of the proof: SxG, SxH, SxI, SxJ, SxK. -/
import Derived.Test.YtfainocfaddbdaaGreatT28
set_option linter.all false
namespace Go.Proofs.YtfainocfaddbdaaGreat
open Go
def EntP (v:Nat) (nb:List Nat) (l:List Rat) (j:Nat) (b:Int):Prop :=
 (b<0->∀ i,i<j->v<=nb.getD i 0->¬l.getD i 0<0) /\
 (0<=b->b.toNat<j/\v<=nb.getD b.toNat 0/\l.getD b.toNat 0<0/\∀ i,i<j->v<=nb.getD i 0->l.getD i 0<0->nb.getD b.toNat 0<=nb.getD i 0)
theorem iZ {v:Nat}{nb:List Nat}{l:List Rat}:∀ (ys:List Nat) (j:Nat) (b:Int),nb.drop j=ys->j<=nb.length->EntP v nb l j b->EntP v nb l nb.length (bY v nb l ys j b)
 |[],j,b,hd,hj,h=>by
  (have:j=nb.length:=by have:=congrArg List.length hd;simp at this;omega);rw[bY,<-this];exact h
 |y::ys,j,b,hd,hj,h=>by
  (have hlt:j<nb.length:=by have:=congrArg List.length hd;simp at this;omega);have hy:nb[j]?=some y:=by
   (have h1:(nb.drop j)[0]?=some y:=by rw[hd];rfl);rw[List.getElem?_drop,Nat.add_zero] at h1
   exact h1
  (have hgy:nb.getD j 0=y:=getD_some hy;have hd':nb.drop (j+1)=ys:=by rw[<-List.tail_drop,hd];rfl);rw[bY]
  refine iZ ys (j+1) _ hd' hlt ?_;split;{rename_i hc;refine⟨fun hb=>absurd hb (by omega),fun _=>⟨by simp,by rw[Int.toNat_natCast,hgy];exact hc.1,by rw[Int.toNat_natCast];exact hc.2.1,fun i hi h1 h2=>?_⟩⟩;rw[Int.toNat_natCast,hgy];by_cases e:i=j;{rw[e,hgy];exact Nat.le_refl _};{rcases hc.2.2 with hb|hb;{exact absurd h2 (h.1 hb i (by omega) h1)};{by_cases hbn:b<0;{exact absurd h2 (h.1 hbn i (by omega) h1)};{have:=(h.2 (by omega)).2.2.2 i (by omega) h1 h2;omega}}}};{rename_i hc;refine⟨fun hb i hi h1 h2=>?_,fun hb=>?_⟩;{by_cases e:i=j;{subst e;rw[hgy] at h1;exact hc ⟨h1,h2,.inl hb⟩};{exact h.1 hb i (by omega) h1 h2}};{obtain⟨k1,k2,k3,k4⟩:=h.2 hb;refine⟨by omega,k2,k3,fun i hi h1 h2=>?_⟩;by_cases e:i=j;{subst e;rw[hgy] at h1 ⊢;exact Nat.le_of_not_lt fun q=>hc ⟨h1,h2,.inr q⟩};{exact k4 i (by omega) h1 h2}}}
theorem iY (v:Nat)(nb:List Nat)(l:List Rat):EntP v nb l nb.length (ent v nb l) :=
 iZ nb 0 (-1) rfl (Nat.zero_le _) ⟨fun _ i hi=>absurd hi (by omega),fun h=>absurd h (by decide)⟩
def LvP (v e:Nat) (D:Dic) (j:Nat) (b:Int) (q:Rat):Prop :=
 (b<0->∀ i,i<j->v<=D.bs.getD i 0->¬D.at i e<0) /\
 (0<=b->b.toNat<j/\v<=D.bs.getD b.toNat 0/\D.at b.toNat e<0/\q=D.cst b.toNat / -(D.at b.toNat e) /\
  ∀ i,i<j->v<=D.bs.getD i 0->D.at i e<0->q<D.cst i / -(D.at i e)\/(q=D.cst i / -(D.at i e)/\D.bs.getD b.toNat 0<=D.bs.getD i 0))
theorem aK {v e:Nat}{D:Dic}:∀ (ys:List Nat) (j:Nat) (b:Int) (q:Rat),D.bs.drop j=ys->j<=D.bs.length->LvP v e D j b q->∃ q',LvP v e D D.bs.length (lvGo v e D ys j b q) q'
 |[],j,b,q,hd,hj,h=>by
  (have:j=D.bs.length:=by have:=congrArg List.length hd;simp at this;omega);rw[lvGo,<-this];exact⟨q,h⟩
 |y::ys,j,b,q,hd,hj,h=>by
  (have hlt:j<D.bs.length:=by have:=congrArg List.length hd;simp at this;omega);have hy:D.bs[j]?=some y:=by
   (have h1:(D.bs.drop j)[0]?=some y:=by rw[hd];rfl);rw[List.getElem?_drop,Nat.add_zero] at h1
   exact h1
  (have hgy:D.bs.getD j 0=y:=getD_some hy;have hd':D.bs.drop (j+1)=ys:=by rw[<-List.tail_drop,hd];rfl);rw[lvGo]
  split;{rename_i hc;split;{rename_i hs;refine aK ys (j+1) _ _ hd' hlt ⟨fun hb=>absurd hb (by omega),fun _=>⟨by simp,by rw[Int.toNat_natCast,hgy];exact hc.1,by rw[Int.toNat_natCast];exact hc.2,by rw[Int.toNat_natCast],fun i hi h1 h2=>?_⟩⟩;rw[Int.toNat_natCast,hgy];by_cases e':i=j;{rw[e',hgy];exact .inr ⟨rfl,Nat.le_refl _⟩};{by_cases hbn:b<0;{exact absurd h2 (h.1 hbn i (by omega) h1)};{have hk:=(h.2 (by omega)).2.2.2.2 i (by omega) h1 h2;rcases hs with hs|hs|hs;{omega};{rcases hk with hk|hk;{exact .inl (by grind)};{exact .inl (by grind)}};{rcases hk with hk|hk;{exact .inl (by grind)};{exact .inr ⟨by grind,by have:=hk.2;omega⟩}}}}};{rename_i hs;refine aK ys (j+1) _ _ hd' hlt ⟨fun hb=>absurd (.inl hb) hs,fun hb=>?_⟩;obtain⟨k1,k2,k3,k4,k5⟩:=h.2 hb;refine⟨by omega,k2,k3,k4,fun i hi h1 h2=>?_⟩;by_cases e':i=j;{subst e';rw[hgy];have h3:¬D.cst i / -(D.at i e)<q:=fun w=>hs (.inr (.inl w));by_cases h4:q=D.cst i / -(D.at i e);{exact .inr ⟨h4,Nat.le_of_not_lt fun w=>hs (.inr (.inr ⟨h4.symm,w⟩))⟩};{exact .inl (by grind)}};{exact k5 i (by omega) h1 h2}}};{rename_i hc;refine aK ys (j+1) _ _ hd' hlt ⟨fun hb i hi h1 h2=>?_,fun hb=>?_⟩;{by_cases e':i=j;{subst e';rw[hgy] at h1;exact hc ⟨h1,h2⟩};{exact h.1 hb i (by omega) h1 h2}};{obtain⟨k1,k2,k3,k4,k5⟩:=h.2 hb;refine⟨by omega,k2,k3,k4,fun i hi h1 h2=>?_⟩;by_cases e':i=j;{subst e';rw[hgy] at h1;exact absurd ⟨h1,h2⟩ hc};{exact k5 i (by omega) h1 h2}}}
theorem iH (v e:Nat)(D:Dic):∃ q,LvP v e D D.bs.length (lvR v e D) q :=
 aK D.bs 0 (-1) 0 rfl (Nat.zero_le _) ⟨fun _ i hi=>absurd hi (by omega),fun h=>absurd h (by decide)⟩
theorem aN {v:Nat}{nb:List Nat}{l:List Rat}(h:0<=ent v nb l):(ent v nb l).toNat<nb.length/\v<=nb.getD (ent v nb l).toNat 0/\l.getD (ent v nb l).toNat 0<0:=by have:=(iY v nb l).2 h;exact⟨this.1,this.2.1,this.2.2.1⟩
theorem zA8 {v e:Nat}{D:Dic}(h:0<=lvR v e D):(lvR v e D).toNat<D.bs.length/\v<=D.bs.getD (lvR v e D).toNat 0/\D.at (lvR v e D).toNat e<0:=by obtain⟨q,hq⟩:=iH v e D;have:=hq.2 h;exact⟨this.1,this.2.1,this.2.2.1⟩
theorem zDP {v:Nat}{D:Dic}{l:List Rat}(h1:0<=ent v D.nb l)(h2:0<=lvR v (ent v D.nb l).toNat D):BStep (fun y=>decide (y<v)) D l (lvR v (ent v D.nb l).toNat D).toNat (ent v D.nb l).toNat:=by obtain⟨a1,a2,a3,a4⟩:=(iY v D.nb l).2 h1;obtain⟨q,hq⟩:=iH v (ent v D.nb l).toNat D;obtain⟨b1,b2,b3,b4,b5⟩:=hq.2 h2;refine⟨b1,a1,by simpa using a2,a3,fun j hj hf h=>a4 j hj (by simpa using hf) h,by simpa using b2,b3,fun i hi hf h=>?_,fun i hi hf h he=>?_⟩;{rw[<-b4];rcases b5 i hi (by simpa using hf) h with w|w;{exact Rat.le_of_lt w};{rw[w.1];exact Rat.le_refl}};{rw[<-b4] at he;rcases b5 i hi (by simpa using hf) h with w|w;{rw[he] at w;exact absurd w (Rat.lt_irrefl)};{exact w.2}}
theorem zDE {v:Nat}{nb:List Nat}{l:List Rat}(h:ent v nb l<0){j:Nat}(hj:j<nb.length)(hv:v<=nb.getD j 0):0<=l.getD j 0:=Rat.not_lt.1 ((iY v nb l).1 h j hj hv)
theorem zCU {v e:Nat}{D:Dic}(h:lvR v e D<0){i:Nat}(hi:i<D.bs.length)(hv:v<=D.bs.getD i 0):0<=D.at i e:=by obtain⟨q,hq⟩:=iH v e D;exact Rat.not_lt.1 (hq.1 h i hi hv)
theorem sZ {x:Nat}:∀ (l:List Nat) (i:Nat),(0<=cZ x l i->i<=(cZ x l i).toNat/\l[(cZ x l i).toNat-i]?=some x)/\(x∈l->0<=cZ x l i)
 |[],i=>⟨fun h=>absurd h (by rw[cZ];decide),fun h=>by cases h⟩| y::ys,i=>by
  rw[cZ];split;{rename_i h;exact⟨fun _=>⟨by simp,by simp[h]⟩,fun _=>by omega⟩}
  ·rename_i h;have ih:=sZ (x:=x) ys (i+1);refine⟨fun h0=>?_,fun hm=>ih.2 (by
    rcases List.mem_cons.1 hm with e|e;{exact absurd e h}
    ·exact e)⟩
   have:=ih.1 h0;refine⟨by omega,?_⟩;rw[show (cZ x ys (i+1)).toNat-i=((cZ x ys (i+1)).toNat-(i+1))+1 by omega,List.getElem?_cons_succ];exact this.2
theorem wW {l:List Nat}{x:Nat}(h:0<=wQ l x):l[(wQ l x).toNat]?=some x:=by have:=(sZ (x:=x) l 0).1 h;exact this.2
theorem wV {l:List Nat}{x:Nat}(h:x∈l):0<=wQ l x:=(sZ (x:=x) l 0).2 h
theorem zC2 {l:List Nat}{x:Nat}(h:x∉l):wQ l x<0:=Int.not_le.1 fun q=>h (List.mem_of_getElem? (wW q))
abbrev frV (v:Nat):Nat->Bool:=fun y=>decide (y<v)
def zMI (v:Nat) (z:(Nat->Rat)->Rat) (ln:Dic->List Rat) (D0 D:Dic) (n:Nat):Prop :=
 ∃ (Ds:Nat->Dic) (ls:Nat->List Rat) (rs es:Nat->Nat),BRun (frV v) z Ds ls rs es n/\Ds 0=D0/\Ds n=D/\ls n=ln D
structure MiniOk (v:Nat) (z:(Nat->Rat)->Rat) (ln:Dic->List Rat) (D0:Dic) (p0:Nat) (M:Dic×Nat×Int×Bool):Prop where
 run:∃ n,zMI v z ln D0 M.1 n/\M.2.1=p0+n
 pvs:Pvs D0 M.1
 ok:M.2.2.2=true->M.2.1<=65536/\((M.2.2.1=-1/\ent v M.1.nb (ln M.1)<0)\/(0<=M.2.2.1/\M.2.2.1=ent v M.1.nb (ln M.1)/\lvR v M.2.2.1.toNat M.1<0))
 no:M.2.2.2=false->65536<M.2.1
theorem zCS {v:Nat}{z:(Nat->Rat)->Rat}{ln:Dic->List Rat}{D0:Dic}{p0:Nat}(hw:D0.wf)(hz:∀ F,Pvs D0 F->∀ X,F.Sat X->z X=dot X F.nb (ln F)):∀ (f:Nat) (D:Dic) (p n:Nat),f=65537-p->Pvs D0 D->zMI v z ln D0 D n->p=p0+n->MiniOk v z ln D0 p0 (vI v ln f D p)
 |0,D,p,n,hf,hp,hr,hn=>by rw[vI];exact⟨⟨n,hr,hn⟩,hp,fun h=>absurd (of_decide_eq_true h) (by omega),fun _=>by show 65536<p;omega⟩| f+1,D,p,n,hf,hp,hr,hn=>by
  (have hq:p<=65536:=by omega);rw[vI,if_pos hq]
  split;{rename_i h1;exact⟨⟨n,hr,hn⟩,hp,fun _=>⟨hq,.inl ⟨rfl,h1⟩⟩,fun h=>by cases h⟩}
  ·rename_i h1;split;{rename_i h2;exact⟨⟨n,hr,hn⟩,hp,fun _=>⟨hq,.inr ⟨by show 0<=ent v D.nb (ln D);omega,rfl,h2⟩⟩,fun h=>by cases h⟩}
   ·(rename_i h2;obtain⟨Ds,ls,rs,es,hB,e0,en,el⟩:=hr;have hs:=zDP (v:=v) (D:=D) (l:=ln D) (by omega) (by omega);have hne:D.at (lvR v (ent v D.nb (ln D)).toNat D).toNat (ent v D.nb (ln D)).toNat≠0:=by have:=hs.rneg;grind);have hp':Pvs D0 (D.piv (lvR v (ent v D.nb (ln D)).toNat D).toNat (ent v D.nb (ln D)).toNat):=.step hp hs.hr hs.he hne
    (refine zCS hw hz f _ (p+1) (n+1) (by omega) hp' ?_ (by omega);have hs':BStep (frV v) (Ds n) (ls n) (lvR v (ent v D.nb (ln D)).toNat D).toNat (ent v D.nb (ln D)).toNat:=by rw[en,el];exact hs);have hB':=hB.snoc hs' (l':=ln (D.piv (lvR v (ent v D.nb (ln D)).toNat D).toNat (ent v D.nb (ln D)).toNat)) (fun X hX=>by rw[en] at hX ⊢;exact hz _ hp' X hX)
    refine⟨_,_,_,_,hB',?_,?_,?_⟩;{show (if 0<=n then Ds 0 else _)=D0;rw[if_pos (Nat.zero_le _)];exact e0};{show (if n+1<=n then Ds (n+1) else _)=_;rw[if_neg (by omega),en]};{show (if n+1<=n then ls (n+1) else _)=_;rw[if_neg (by omega)]}
theorem oY {v:Nat}{z:(Nat->Rat)->Rat}{ln:Dic->List Rat}{D0:Dic}{p0 M:Nat}(hw:D0.wf)(hfe:D0.feas (frV v))(hz:∀ F,Pvs D0 F->∀ X,F.Sat X->z X=dot X F.nb (ln F)) (hM:∀ y,y∈D0.bs\/y∈D0.nb->y<v+M) (hp:p0+2^M<=65537):MiniOk v z ln D0 p0 (vI v ln (65537-p0) D0 p0)/\(vI v ln (65537-p0) D0 p0).2.2.2=true/\(vI v ln (65537-p0) D0 p0).1.feas (frV v)/\(vI v ln (65537-p0) D0 p0).2.1+1<=p0+2^M:=by
 have hm:=zCS (p0:=p0) hw hz (65537-p0) D0 p0 0 rfl .refl ⟨_,_,_,_,BRun.zero hw hfe (fun X hX=>hz D0 .refl X hX),rfl,rfl,rfl⟩ rfl;generalize vI v ln (65537-p0) D0 p0=R at *
 obtain⟨n,⟨Ds,ls,rs,es,hB,e0,en,el⟩,hn⟩:=hm.run;have hfew:=hB.few (base:=v) (M:=M) (fun y hy hf=>by
  (rw[e0] at hy;have h1:=hM y hy;have h2:¬y<v:=by simpa[frV] using hf);exact⟨by omega,h1⟩)
 refine⟨hm,?_,fun j hj hf=>?_,by omega⟩
 ·cases hb:R.2.2.2 with
  |true=>rfl| false=>have:=hm.no hb;omega
 {rw[<-en] at hj hf ⊢;exact hB.feas n (Nat.le_refl _) j hj hf}
theorem tW {old:List Rat}{e j:Nat}(hj:j<old.length)(he:e<old.length):(vF old e).getD j 0=if j=e then 1/old.getD e 0 else -(old.getD j 0)/old.getD e 0:=by unfold vF;rw[List.getD_eq_getElem?_getD,List.getElem?_set];by_cases h:e=j;{subst h;rw[if_pos rfl,if_pos (by rw[List.length_map];exact he),if_pos rfl];rfl};{rw[if_neg h,if_neg (fun q=>h q.symm),List.getElem?_map,List.getElem?_eq_getElem hj];rw[List.getD_eq_getElem?_getD (i:=j),List.getElem?_eq_getElem hj];rfl}
theorem zFJ {l form:List Rat}{e j:Nat}(hl:l.length=form.length)(hj:j<l.length):(sbs l e form).getD j 0=(if j=e then 0 else l.getD j 0)+l.getD e 0*form.getD j 0:=by unfold sbs;rw[tC _ _ _ _ (by rw[List.length_set];exact hl)];congr 1;rw[List.getD_eq_getElem?_getD,List.getElem?_set];by_cases h:e=j;{subst h;rw[if_pos rfl,if_pos hj,if_pos rfl];rfl};{rw[if_neg h,if_neg (fun q=>h q.symm),List.getD_eq_getElem?_getD]}
section
variable {D:Dic} {r e:Nat}
theorem Dic.piv_bs_get (hr:r<D.bs.length){i:Nat}:(D.piv r e).bs.getD i 0=if i=r then D.nb.getD e 0 else D.bs.getD i 0:=by show (D.bs.set r (D.nb.getD e 0)).getD i 0=_;rw[List.getD_eq_getElem?_getD,List.getElem?_set];by_cases h:r=i;{subst h;rw[if_pos rfl,if_pos hr,if_pos rfl];rfl};{rw[if_neg h,if_neg (fun q=>h q.symm),List.getD_eq_getElem?_getD]}
theorem Dic.piv_nb_get (he:e<D.nb.length){j:Nat}:(D.piv r e).nb.getD j 0=if j=e then D.bs.getD r 0 else D.nb.getD j 0:=by show (D.nb.set e (D.bs.getD r 0)).getD j 0=_;rw[List.getD_eq_getElem?_getD,List.getElem?_set];by_cases h:e=j;{subst h;rw[if_pos rfl,if_pos he,if_pos rfl];rfl};{rw[if_neg h,if_neg (fun q=>h q.symm),List.getD_eq_getElem?_getD]}
theorem Dic.row_len (h:D.wf){i:Nat}(hi:i<D.bs.length):(D.fs.getD i []).length=D.nb.length+1:=by obtain⟨l,hl⟩:=zV (l:=D.fs) (i:=i) (by rw[h.len];exact hi);rw[getD_some hl];exact h.row i l hl
theorem Dic.piv_at_r (h:D.wf)(hr:r<D.bs.length)(he:e<D.nb.length){j:Nat}(hj:j<=D.nb.length):(D.piv r e).at r j=if j=e then 1/D.at r e else -(D.at r j)/D.at r e:=by
 have hl:=Dic.row_len h hr;obtain⟨l,hlr⟩:=zV (l:=D.fs) (i:=r) (by rw[h.len];exact hr);have e1:(D.piv r e).fs.getD r []=vF (D.fs.getD r []) e:=by show (c7 r e _ 0 D.fs).getD r []=_;rw[List.getD_eq_getElem?_getD,jU,hlr,Nat.zero_add];simp
 unfold Dic.at
 rw[e1];exact tW (by omega) (by omega)
theorem Dic.piv_at (h:D.wf)(hr:r<D.bs.length)(he:e<D.nb.length){i j:Nat}(hi:i<D.bs.length)(hir:i≠r)(hj:j<=D.nb.length):(D.piv r e).at i j=(if j=e then 0 else D.at i j)+D.at i e*(if j=e then 1/D.at r e else -(D.at r j)/D.at r e):=by
 have hl:=Dic.row_len h hr;have hli:=Dic.row_len h hi;obtain⟨l,hlr⟩:=zV (l:=D.fs) (i:=i) (by rw[h.len];exact hi);have e1:(D.piv r e).fs.getD i []=sbs (D.fs.getD i []) e (vF (D.fs.getD r []) e):=by show (c7 r e _ 0 D.fs).getD i []=_;rw[List.getD_eq_getElem?_getD,jU,hlr,Nat.zero_add,getD_some hlr];simp[hir]
 unfold Dic.at
 rw[e1,zFJ (by rw[gG];omega) (by omega),tW (by omega) (by omega)]
theorem Dic.piv_ob (h:D.wf)(hr:r<D.bs.length)(he:e<D.nb.length){j:Nat}(hj:j<=D.nb.length):(D.piv r e).ob.getD j 0=(if j=e then 0 else D.ob.getD j 0)+D.ob.getD e 0*(if j=e then 1/D.at r e else -(D.at r j)/D.at r e):=by have hl:=Dic.row_len h hr;have:=h.ob;show (sbs D.ob e (vF (D.fs.getD r []) e)).getD j 0=_;rw[zFJ (by rw[gG];omega) (by omega),tW (by omega) (by omega)];rfl
end
def Dic.rel0 (v m:Nat) (D:Dic):Prop:=∀ e,e<m->e<D.nb.length->D.nb.getD e 0<v->∀ i,i<D.bs.length->v<=D.bs.getD i 0->D.at i e=0
theorem Dic.rel0_piv {v m r e:Nat}{D:Dic}(h:D.wf)(hr:r<D.bs.length)(he:e<D.nb.length)(hrv:v<=D.bs.getD r 0)(h0:D.rel0 v m):(D.piv r e).rel0 v m:=by intro j hjm hj hjv i hi hiv;rw[Dic.piv_nl] at hj;rw[Dic.piv_bl] at hi;rw[Dic.piv_nb_get he] at hjv;rw[Dic.piv_bs_get hr] at hiv;by_cases hje:j=e;{rw[if_pos hje] at hjv;omega};{rw[if_neg hje] at hjv;have hrj:=h0 j hjm hj hjv r hr hrv;by_cases hir:i=r;{subst hir;rw[Dic.piv_at_r h hr he (by omega),if_neg hje,hrj,Rat.neg_zero,Rat.div_def,Rat.zero_mul]};{rw[if_neg hir] at hiv;rw[Dic.piv_at h hr he hi hir (by omega),if_neg hje,if_neg hje,hrj,h0 j hjm hj hjv i hi hiv,Rat.neg_zero,Rat.div_def,Rat.zero_mul,Rat.mul_zero,Rat.add_zero]}}
theorem lS {v e:Nat}{D:Dic}:∀ {bs:List Nat} {i:Nat},D.bs.drop i=bs->sA v e D bs i=none->∀ k,i<=k->k<D.bs.length->v<=D.bs.getD k 0->D.at k e=0
 |[],i,hd,h,k,hik,hk,hv=>by have:=congrArg List.length hd;simp at this;omega| b::bs,i,hd,h,k,hik,hk,hv=>by
  rw[sA] at h;have hb:D.bs[i]?=some b:=by
   (have h1:(D.bs.drop i)[0]?=some b:=by rw[hd];rfl);rw[List.getElem?_drop,Nat.add_zero] at h1
   exact h1
  split at h;{cases h};{rename_i hc;by_cases hki:k=i;{subst hki;rw[getD_some hb] at hv;exact Classical.byContradiction fun q=>hc ⟨hv,q⟩};{exact lS (by rw[<-List.tail_drop,hd];rfl) h k (by omega) hk hv}}
theorem lQ {v e:Nat}{D:Dic}:∀ {bs:List Nat} {i k:Nat},D.bs.drop i=bs->sA v e D bs i=some k->k<D.bs.length/\v<=D.bs.getD k 0/\D.at k e≠0
 |[],i,k,hd,h=>by cases h
 |b::bs,i,k,hd,h=>by
  rw[sA] at h;have hb:D.bs[i]?=some b:=by
   (have h1:(D.bs.drop i)[0]?=some b:=by rw[hd];rfl);rw[List.getElem?_drop,Nat.add_zero] at h1
   exact h1
  split at h;{rename_i hc;cases h;exact⟨yT hb,by rw[getD_some hb];exact hc.1,hc.2⟩};{exact lQ (by rw[<-List.tail_drop,hd];rfl) h}
theorem bJ {v:Nat}{D:Dic}(hw:D.wf):∀ (ys:List Nat) (e:Nat) (s:Dic×Nat),s.1.nb.drop e=ys->e<=s.1.nb.length->Pvs D s.1->s.1.rel0 v e ->Pvs D (rel v ys e s).1/\(rel v ys e s).1.rel0 v s.1.nb.length/\(rel v ys e s).2<=s.2+ys.length
 |[],e,s,hd,he,hp,h0=>by
  (have:e=s.1.nb.length:=by have:=congrArg List.length hd;simp at this;omega);rw[rel,<-this];exact⟨hp,h0,by simp⟩
 |y::ys,e,s,hd,he,hp,h0=>by
  (have hlt:e<s.1.nb.length:=by have:=congrArg List.length hd;simp at this;omega);have hy:s.1.nb[e]?=some y:=by
   (have h1:(s.1.nb.drop e)[0]?=some y:=by rw[hd];rfl);rw[List.getElem?_drop,Nat.add_zero] at h1
   exact h1
  (have hd':s.1.nb.drop (e+1)=ys:=by rw[<-List.tail_drop,hd];rfl);have hw':=hp.wf hw
  rw[rel];split
  ·rename_i hyv;unfold relS;split
   ·rename_i i hi;obtain⟨k1,k2,k3⟩:=lQ (bs:=s.1.bs) (i:=0) rfl hi;have hp':Pvs D (s.1.piv i e):=.step hp k1 hlt k3;have h0':=Dic.rel0_piv hw' k1 hlt k2 h0;have ih:=bJ hw ys (e+1) (s.1.piv i e,s.2+1) (by
     show (s.1.nb.set e _).drop (e+1)=ys;rw[<-hd'];apply List.ext_getElem?;intro j;rw[List.getElem?_drop,List.getElem?_drop,List.getElem?_set_ne (by omega)]) (by show e+1<=(s.1.piv i e).nb.length;rw[Dic.piv_nl];exact hlt) hp' (by
     intro j hj hjl hjv k hk hkv;by_cases hje:j=e;{have h2:(s.1.piv i e).nb.getD j 0<v:=hjv;rw[Dic.piv_nb_get hlt,if_pos hje] at h2;omega}
     ·exact h0' j (by omega) hjl hjv k hk hkv)
    have hl:(s.1.piv i e).nb.length=s.1.nb.length:=Dic.piv_nl _ _ _;refine⟨ih.1,by rw[<-hl];exact ih.2.1,?_⟩;have:=ih.2.2;simp only[List.length_cons] at this ⊢;omega
   ·rename_i hi;have ih:=bJ hw ys (e+1) (s.1,s.2) hd' hlt hp (by
     intro j hj hjl hjv k hk hkv;by_cases hje:j=e;{subst hje;exact lS (bs:=s.1.bs) (i:=0) rfl hi k (Nat.zero_le _) hk hkv}
     ·exact h0 j (by omega) hjl hjv k hk hkv)
    refine⟨ih.1,ih.2.1,?_⟩;have:=ih.2.2;simp only[List.length_cons] at this ⊢;omega
  ·rename_i hyv;have ih:=bJ hw ys (e+1) s hd' hlt hp (by
    intro j hj hjl hjv k hk hkv;by_cases hje:j=e;{subst hje;rw[getD_some hy] at hjv;exact absurd hjv hyv}
    ·exact h0 j (by omega) hjl hjv k hk hkv)
   refine⟨ih.1,ih.2.1,?_⟩;have:=ih.2.2;simp only[List.length_cons] at this ⊢;omega
def jR:List Rat->(Nat->Rat)->Rat
 |[],_=>0| q::qs,f=>q*f 0+jR qs (fun k=>f (k+1))
theorem zCB:∀ {l:List Rat} {k:Nat} {q:Rat} {f:Nat->Rat},k<l.length->jR (l.set k q) f=jR l f-l.getD k 0*f k+q*f k
 |x::l,0,q,f,h=>by simp only[List.set_cons_zero,jR,List.getD_cons_zero];grind| x::l,k+1,q,f,h=>by simp only[List.set_cons_succ,jR,List.getD_cons_succ];rw[zCB (by simpa using h)];grind
theorem oN:∀ {n:Nat} {f:Nat->Rat},jR (List.replicate n 0) f=0
 |0,f=>rfl| n+1,f=>by rw[List.replicate_succ,jR,oN];grind
theorem i7 {v r:Nat}{l:List Rat}:∀ {ys:List Nat} {j:Nat} {o:List Rat},(kF v r l ys j o).length=o.length
 |[],_,_=>rfl| y::ys,j,o=>by rw[kF,i7];split <;> simp
theorem pW {v r:Nat}{nb:List Nat}{l:List Rat}:(pX v r nb l).length=r:=by unfold pX;rw[i7,List.length_replicate]
theorem s9 {v r:Nat}{l:List Rat}{X:Nat->Rat}:∀ {ys:List Nat} {j:Nat} {o:List Rat},ys.Nodup->o.length=r->(∀ k,k<r->v+k∈ys->o.getD k 0=0) ->(∀ i,i<ys.length->¬(v<=ys.getD i 0/\ys.getD i 0-v<r)->l.getD (j+i) 0=0\/X (ys.getD i 0)=0) ->jR (kF v r l ys j o) (fun k=>X (v+k))+l.getD (j+ys.length) 0=jR o (fun k=>X (v+k))+dot X ys (l.drop j)
 |[],j,o,hn,ho,hz,hc=>by rw[kF];congr 1;unfold dot;rw[List.headD_eq_head?_getD,List.head?_drop,List.getD_eq_getElem?_getD];rfl
 |y::ys,j,o,hn,ho,hz,hc=>by
  have hny:=(List.nodup_cons.1 hn);have hdot:dot X (y::ys) (l.drop j)=l.getD j 0*X y+dot X ys (l.drop (j+1)):=by rw[dot];congr 1;{rw[List.headD_eq_head?_getD,List.head?_drop,List.getD_eq_getElem?_getD]};{rw[List.tail_drop]}
  (have hlen:j+(y::ys).length=(j+1)+ys.length:=by simp only[List.length_cons];omega);rw[kF,hdot,hlen]
  (have hc':∀ i,i<ys.length->¬(v<=ys.getD i 0/\ys.getD i 0-v<r)->l.getD (j+1+i) 0=0\/X (ys.getD i 0)=0:=fun i hi h=>by have:=hc (i+1) (by simp only[List.length_cons];omega) (by rw[List.getD_cons_succ];exact h);rw[List.getD_cons_succ] at this;rw[show j+1+i=j+(i+1) by omega];exact this);split
  {rename_i h;have ih:=s9 (v:=v) (r:=r) (l:=l) (X:=X) (ys:=ys) (j:=j+1) (o:=o.set (y-v) (l.getD j 0)) hny.2 (by rw[List.length_set];exact ho) (fun k hk hm=>by have hne:y-v≠k:=fun e=>hny.1 (by rw[show y=v+k by omega];exact hm);rw[List.getD_eq_getElem?_getD,List.getElem?_set_ne hne,<-List.getD_eq_getElem?_getD];exact hz k hk (List.mem_cons_of_mem _ hm)) hc';rw[ih,zCB (by omega),hz (y-v) h.2 (by rw[show v+(y-v)=y by omega];exact List.mem_cons_self),show v+(y-v)=y by omega];grind};{rename_i h;have ih:=s9 (v:=v) (r:=r) (l:=l) (X:=X) (ys:=ys) (j:=j+1) (o:=o) hny.2 ho (fun k hk hm=>hz k hk (List.mem_cons_of_mem _ hm)) hc';rw[ih];have:=hc 0 (by simp) (by rw[List.getD_cons_zero];exact h);rw[List.getD_cons_zero,Nat.add_zero] at this;rcases this with q|q <;> rw[q] <;> grind}
theorem zDJ {v r:Nat}{nb:List Nat}{l:List Rat}{X:Nat->Rat}(hn:nb.Nodup)(hc:∀ i,i<nb.length->¬(v<=nb.getD i 0/\nb.getD i 0-v<r)->l.getD i 0=0\/X (nb.getD i 0)=0):dot X nb l=jR (pX v r nb l) (fun k=>X (v+k))+l.getD nb.length 0:=by have:=s9 (v:=v) (r:=r) (l:=l) (X:=X) (ys:=nb) (j:=0) (o:=List.replicate r 0) hn (by simp) (fun k hk _=>by rw[List.getD_eq_getElem?_getD,List.getElem?_replicate];split <;> rfl) (fun i hi h=>by rw[Nat.zero_add];exact hc i hi h);rw[oN,Nat.zero_add,List.drop_zero] at this;unfold pX;rw[this];grind
theorem zAJ {v r:Nat}{l:List Rat}:∀ {ys:List Nat} {j:Nat} {o:List Rat},(∀ c,c∈o->0<=c)->(∀ i,i<ys.length->v<=ys.getD i 0->0<=l.getD (j+i) 0)->∀ c,c∈kF v r l ys j o->0<=c
 |[],j,o,ho,hl=>ho| y::ys,j,o,ho,hl=>by
  (rw[kF];refine zAJ (j:=j+1) ?_ fun i hi hv=>by have:=hl (i+1) (by simp only[List.length_cons];omega) (by rw[List.getD_cons_succ];exact hv);rw[show j+1+i=j+(i+1) by omega];exact this);split
  {rename_i h;intro c hc;rcases List.mem_or_eq_of_mem_set hc with q|q;{exact ho c q};{rw[q];have:=hl 0 (by simp) (by rw[List.getD_cons_zero];exact h.1);rwa [Nat.add_zero] at this}};{exact ho}
theorem zGA {v r:Nat}{nb:List Nat}{l:List Rat}(hl:∀ i,i<nb.length->v<=nb.getD i 0->0<=l.getD i 0):∀ c,c∈pX v r nb l->0<=c :=
 zAJ (fun c hc=>by rw[List.eq_of_mem_replicate hc];exact Rat.le_refl) fun i hi hv=>by rw[Nat.zero_add];exact hl i hi hv
theorem nL {c:Nat}{x:Rat}{l:List Rat}(h:c<=l.length):(ins c x l).length=l.length+1:=by unfold ins;simp;omega
theorem zLG {c:Nat}{x:Rat}{l:List Rat}(h:c<=l.length)(j:Nat):(ins c x l).getD j 0=if j<c then l.getD j 0 else if j=c then x else l.getD (j-1) 0:=by
 unfold ins;have ht:(l.take c).length=c:=by rw[List.length_take];omega
 rw[List.getD_eq_getElem?_getD];by_cases h1:j<c;{rw[if_pos h1,List.getElem?_append_left (by omega),List.getElem?_take_of_lt h1,List.getD_eq_getElem?_getD]};{rw[if_neg h1,List.getElem?_append_right (by omega),ht];by_cases h2:j=c;{rw[if_pos h2,h2,Nat.sub_self];rfl};{rw[if_neg h2,show j-c=(j-c-1)+1 by omega,List.getElem?_cons_succ,List.getElem?_drop,List.getD_eq_getElem?_getD];congr 2;omega}}
theorem nR {X:Nat->Rat}{a:Nat}{x:Rat}:∀ {nb:List Nat} {l:List Rat},l.length=nb.length+1->dot X (nb++[a]) (ins nb.length x l)=dot X nb l+x*X a
 |[],l,h=>by
  cases l with
  |nil=>simp at h| cons c l=>simp only[List.nil_append,List.length_nil,ins,List.take_zero,List.drop_zero,dot,List.headD_cons,List.tail_cons];grind
 |v::vs,l,h=>by
  cases l with
  |nil=>simp at h| cons c l =>
   have ih:=nR (X:=X) (a:=a) (x:=x) (nb:=vs) (l:=l) (by simpa using h);unfold ins at ih;simp only[List.cons_append,List.length_cons,ins,List.take_succ_cons,List.drop_succ_cons,dot,List.headD_cons,List.tail_cons];rw[ih];grind
theorem eM {v c:Nat}:∀ {bs:List Nat} {ls:List (List Rat)},ls.length=bs.length->(eO v c bs ls).length=bs.length
 |[],[],_=>rfl| [],_::_,h=>by simp at h| _::_,[],h=>by simp at h| b::bs,l::ls,h=>by rw[eO,List.length_cons,eM (by simpa using h)];rfl
theorem eN {v c:Nat}:∀ {bs:List Nat} {ls:List (List Rat)} {i b:Nat} {l:List Rat},bs[i]?=some b->ls[i]?=some l->(eO v c bs ls)[i]?=some (ins c (if b<v then 0 else 1) l)
 |[],ls,i,b,l,h,_=>by simp at h| _::_,[],i,b,l,_,h=>by simp at h| b'::bs,l'::ls,0,b,l,h1,h2=>by simp only[List.getElem?_cons_zero,Option.some.injEq] at h1 h2;subst h1 h2;rfl
 |b'::bs,l'::ls,i+1,b,l,h1,h2=>by simp only[List.getElem?_cons_succ] at h1 h2;rw[eO,List.getElem?_cons_succ];exact eN h1 h2
section
variable {D:Dic} {v a:Nat}
theorem Dic.aux_row (h:D.wf){i b:Nat}{l:List Rat}(hb:D.bs[i]?=some b)(hl:D.fs[i]?=some l):(D.aux v a).fs[i]?=some (ins D.nb.length (if b<v then 0 else 1) l):=eN hb hl
theorem Dic.aux_fl (h:D.wf):(D.aux v a).fs.length=D.bs.length:=eM h.len
theorem Dic.aux_wf (h:D.wf)(h1:a∉D.bs)(h2:a∉D.nb):(D.aux v a).wf where
 len:=Dic.aux_fl h
 row i l hl:=by
  (have hi:i<D.bs.length:=by rw[<-Dic.aux_fl (v:=v) (a:=a) h];exact yT hl);obtain⟨b,hb⟩:=zV hi
  obtain⟨l0,hl0⟩:=zV (l:=D.fs) (i:=i) (by rw[h.len];exact hi);rw[Dic.aux_row h hb hl0] at hl;cases hl;have:=h.row i l0 hl0;rw[nL (by omega),this];show _=(D.nb++[a]).length+1;simp
 ob:=by have:=h.ob;show (ins D.nb.length 0 D.ob).length=(D.nb++[a]).length+1;rw[nL (by omega),this];simp
 nd:=by show (D.bs++(D.nb++[a])).Nodup;rw[<-List.append_assoc,List.nodup_append];refine⟨h.nd,by simp,fun x hx y hy e=>?_⟩;simp at hy;subst hy e;rcases List.mem_append.1 hx with q|q;{exact h1 q};{exact h2 q}
theorem Dic.aux_sat (h:D.wf){X:Nat->Rat}:(D.aux v a).Sat X↔∀ (i:Nat) b l,D.bs[i]?=some b->D.fs[i]?=some l->X b=dot X D.nb l+(if b<v then 0 else 1)*X a:=by constructor;{intro hs i b l hb hl;rw[hs i b _ hb (Dic.aux_row h hb hl)];exact nR (h.row i l hl)};{intro hs i b l hb hl;obtain⟨l0,hl0⟩:=zV (l:=D.fs) (i:=i) (by rw[h.len];exact yT hb);have e:=Dic.aux_row (v:=v) (a:=a) h hb hl0;rw[hl] at e;cases e;rw[hs i b l0 hb hl0];exact (nR (h.row i l0 hl0)).symm}
theorem Dic.aux_val (h:D.wf){X:Nat->Rat}:(D.aux v a).val X=D.val X:=by show dot X (D.nb++[a]) (ins D.nb.length 0 D.ob)=_;rw[nR h.ob,Rat.zero_mul,Rat.add_zero];rfl
theorem Dic.aux_at (h:D.wf){i j:Nat}(hi:i<D.bs.length):(D.aux v a).at i j=if j<D.nb.length then D.at i j else if j=D.nb.length then (if D.bs.getD i 0<v then 0 else 1) else D.at i (j-1):=by
 obtain⟨b,hb⟩:=zV hi;obtain⟨l,hl⟩:=zV (l:=D.fs) (i:=i) (by rw[h.len];exact hi);have:=h.row i l hl;unfold Dic.at
 rw[getD_some (Dic.aux_row h hb hl),getD_some hl,getD_some hb,zLG (by omega)]
theorem Dic.aux_cst (h:D.wf){i:Nat}(hi:i<D.bs.length):(D.aux v a).cst i=D.cst i:=by show (D.aux v a).at i (D.nb++[a]).length=D.at i D.nb.length;rw[Dic.aux_at h hi,if_neg (by simp),if_neg (by simp)];simp
end
theorem nS {X:Nat->Rat}:∀ {nb:List Nat} {l:List Rat} {c:Nat},l.length=nb.length+1->c<nb.length->dot X (nb.eraseIdx c) (l.eraseIdx c)=dot X nb l-l.getD c 0*X (nb.getD c 0)
 |[],l,c,_,h=>by simp at h| v::vs,[],c,h,_=>by simp at h| v::vs,x::l,0,h,_=>by simp only[List.eraseIdx_zero,List.tail_cons,dot,List.headD_cons,List.getD_cons_zero];grind| v::vs,x::l,c+1,h,hc=>by have ih:=nS (X:=X) (nb:=vs) (l:=l) (c:=c) (by simpa using h) (by simpa using hc);simp only[List.eraseIdx_cons_succ,dot,List.headD_cons,List.tail_cons,List.getD_cons_succ];rw[ih];grind
section
variable {D:Dic} {c:Nat}
theorem Dic.del_row {i:Nat}{l:List Rat}(hl:D.fs[i]?=some l):(D.del c).fs[i]?=some (l.eraseIdx c):=by show (D.fs.map fun l=>l.eraseIdx c)[i]?=_;rw[List.getElem?_map,hl];rfl
theorem Dic.del_nl (hc:c<D.nb.length):(D.del c).nb.length+1=D.nb.length:=by show (D.nb.eraseIdx c).length+1=_;rw[List.length_eraseIdx_of_lt hc];omega
theorem Dic.del_wf (h:D.wf)(hc:c<D.nb.length):(D.del c).wf where
 len:=by show (D.fs.map _).length=_;rw[List.length_map];exact h.len
 row i l hl:=by obtain⟨l0,hl0⟩:=zV (l:=D.fs) (i:=i) (by have:=yT hl;show i<_;rw[show (D.del c).fs.length=D.fs.length from List.length_map _] at this;exact this);rw[Dic.del_row hl0] at hl;cases hl;have:=h.row i l0 hl0;have h2:=Dic.del_nl hc;rw[List.length_eraseIdx_of_lt (by omega)];omega
 ob:=by have:=h.ob;have h2:=Dic.del_nl hc;show (D.ob.eraseIdx c).length=_;rw[List.length_eraseIdx_of_lt (by omega)];omega
 nd:=by have hs:(D.bs++D.nb.eraseIdx c).Sublist (D.bs++D.nb):=List.Sublist.append (List.Sublist.refl _) (List.eraseIdx_sublist _ _);exact List.Nodup.sublist hs h.nd
theorem Dic.del_sat (h:D.wf)(hc:c<D.nb.length){X:Nat->Rat}(hX:X (D.nb.getD c 0)=0):(D.del c).Sat X↔D.Sat X:=by constructor;{intro hs i b l hb hl;rw[hs i b _ hb (Dic.del_row hl)];show dot X (D.nb.eraseIdx c) _=_;rw[nS (h.row i l hl) hc,hX,Rat.mul_zero,Rat.sub_eq_add_neg,Rat.neg_zero,Rat.add_zero]};{intro hs i b l hb hl;obtain⟨l0,hl0⟩:=zV (l:=D.fs) (i:=i) (by rw[h.len];exact yT hb);rw[Dic.del_row hl0] at hl;cases hl;rw[hs i b l0 hb hl0];show _=dot X (D.nb.eraseIdx c) _;rw[nS (h.row i l0 hl0) hc,hX,Rat.mul_zero,Rat.sub_eq_add_neg,Rat.neg_zero,Rat.add_zero]}
theorem Dic.del_val (h:D.wf)(hc:c<D.nb.length){X:Nat->Rat}(hX:X (D.nb.getD c 0)=0):(D.del c).val X=D.val X:=by show dot X (D.nb.eraseIdx c) (D.ob.eraseIdx c)=dot X D.nb D.ob;rw[nS h.ob hc,hX,Rat.mul_zero,Rat.sub_eq_add_neg,Rat.neg_zero,Rat.add_zero]
theorem iX {α:Type}{l:List α}{c j:Nat}{d:α}:(l.eraseIdx c).getD j d=if j<c then l.getD j d else l.getD (j+1) d:=by rw[List.getD_eq_getElem?_getD,List.getElem?_eraseIdx];split <;> rw[List.getD_eq_getElem?_getD]
theorem Dic.del_at {i j:Nat}(h:D.wf)(hi:i<D.bs.length):(D.del c).at i j=if j<c then D.at i j else D.at i (j+1):=by
 obtain⟨l,hl⟩:=zV (l:=D.fs) (i:=i) (by rw[h.len];exact hi);unfold Dic.at
 rw[getD_some (Dic.del_row hl),getD_some hl,iX]
theorem Dic.del_cst {i:Nat}(h:D.wf)(hc:c<D.nb.length)(hi:i<D.bs.length):(D.del c).cst i=D.cst i:=by have h2:=Dic.del_nl hc;show (D.del c).at i (D.del c).nb.length=D.at i D.nb.length;rw[Dic.del_at h hi,if_neg (by omega),h2]
end
def WrP (v:Nat) (D:Dic) (j:Nat) (b:Int):Prop :=
 (b<0->∀ i,i<j->v<=D.bs.getD i 0->¬D.cst i<0) /\
 (0<=b->b.toNat<j/\v<=D.bs.getD b.toNat 0/\D.cst b.toNat<0/\∀ i,i<j->v<=D.bs.getD i 0->D.cst i<0->D.cst b.toNat<=D.cst i)
theorem oF {v:Nat}{D:Dic}:∀ (ys:List Nat) (j:Nat) (b:Int),D.bs.drop j=ys->j<=D.bs.length->WrP v D j b->WrP v D D.bs.length (wrGo v D ys j b)
 |[],j,b,hd,hj,h=>by
  (have:j=D.bs.length:=by have:=congrArg List.length hd;simp at this;omega);rw[wrGo,<-this];exact h
 |y::ys,j,b,hd,hj,h=>by
  (have hlt:j<D.bs.length:=by have:=congrArg List.length hd;simp at this;omega);have hy:D.bs[j]?=some y:=by
   (have h1:(D.bs.drop j)[0]?=some y:=by rw[hd];rfl);rw[List.getElem?_drop,Nat.add_zero] at h1
   exact h1
  (have hgy:D.bs.getD j 0=y:=getD_some hy;have hd':D.bs.drop (j+1)=ys:=by rw[<-List.tail_drop,hd];rfl);rw[wrGo]
  refine oF ys (j+1) _ hd' hlt ?_;split;{rename_i hc;refine⟨fun hb=>absurd hb (by omega),fun _=>⟨by simp,by rw[Int.toNat_natCast,hgy];exact hc.1,by rw[Int.toNat_natCast];exact hc.2.1,fun i hi h1 h2=>?_⟩⟩;rw[Int.toNat_natCast];by_cases e:i=j;{rw[e];exact Rat.le_refl};{rcases hc.2.2 with hb|hb;{exact absurd h2 (h.1 hb i (by omega) h1)};{by_cases hbn:b<0;{exact absurd h2 (h.1 hbn i (by omega) h1)};{have:=(h.2 (by omega)).2.2.2 i (by omega) h1 h2;grind}}}};{rename_i hc;refine⟨fun hb i hi h1 h2=>?_,fun hb=>?_⟩;{by_cases e:i=j;{subst e;rw[hgy] at h1;exact hc ⟨h1,h2,.inl hb⟩};{exact h.1 hb i (by omega) h1 h2}};{obtain⟨k1,k2,k3,k4⟩:=h.2 hb;refine⟨by omega,k2,k3,fun i hi h1 h2=>?_⟩;by_cases e:i=j;{subst e;rw[hgy] at h1;exact Rat.not_lt.1 fun q=>hc ⟨h1,h2,.inr q⟩};{exact k4 i (by omega) h1 h2}}}
theorem nW (v:Nat)(D:Dic):WrP v D D.bs.length (wrs v D) :=
 oF D.bs 0 (-1) rfl (Nat.zero_le _) ⟨fun _ i hi=>absurd hi (by omega),fun h=>absurd h (by decide)⟩
theorem tY:∀ (l:List Rat) (j:Nat),(∃ c,c∈l/\c≠0)->0<=sW l j/\j<=(sW l j).toNat/\∃ c,l[(sW l j).toNat-j]?=some c/\c≠0
 |[],j,h=>by obtain⟨c,hc,_⟩:=h;cases hc
 |c::l,j,h=>by
  rw[sW];split;{rename_i hc;exact⟨by omega,by simp,c,by simp,hc⟩}
  ·rename_i hc;have hc0:c=0:=Classical.byContradiction hc;have ih:=tY l (j+1) (by
    obtain⟨x,hx,hx0⟩:=h;rcases List.mem_cons.1 hx with e|e;{exact absurd (e.trans hc0) hx0}
    ·exact⟨x,e,hx0⟩)
   obtain⟨h1,h2,x,h3,h4⟩:=ih;refine⟨h1,by omega,x,?_,h4⟩;rw[show (sW l (j+1)).toNat-j=((sW l (j+1)).toNat-(j+1))+1 by omega,List.getElem?_cons_succ];exact h3
theorem zGW {α:Type}{l:List α}{i:Nat}{x:α}(h:l[i]?=some x):l.set i x=l:=by apply List.ext_getElem?;intro j;rw[List.getElem?_set];by_cases hj:i=j;{subst hj;rw[if_pos rfl,if_pos (List.getElem?_eq_some_iff.1 h).1,h]};{rw[if_neg hj]}
theorem aP {X:Nat->Rat}:∀ {nb:List Nat} {n:Nat},dot X nb (List.replicate n 0)=0
 |[],n=>by cases n <;> rfl
 |v::vs,0=>by have:=aP (X:=X) (nb:=vs) (n:=0);simp only[List.replicate,dot,List.headD_nil,List.tail_nil] at this ⊢;rw[this];grind| v::vs,n+1=>by simp only[List.replicate_succ,dot,List.headD_cons,List.tail_cons];rw[aP];grind
theorem Dic.sat_congr {D:Dic}(h:D.wf){X Y:Nat->Rat}(hxy:∀ y,y∈D.bs\/y∈D.nb->X y=Y y):D.Sat X↔D.Sat Y:=by
 have key:∀ {X Y:Nat->Rat},(∀ y,y∈D.bs\/y∈D.nb->X y=Y y)->D.Sat X->D.Sat Y:=fun {X Y} hxy hs i b l hb hl=>by rw[<-hxy b (.inl (List.mem_of_getElem? hb)),hs i b l hb hl];exact kN fun y hy=>hxy y (.inr hy)
 exact⟨key hxy,key fun y hy=>(hxy y hy).symm⟩
theorem zHZ {F:Dic}{a:Nat}(hw:F.wf)(ha:a∈F.bs\/a∈F.nb){X:Nat->Rat}(hX:F.Sat X):X a=dot X F.nb (vio a F):=by unfold vio;split;{rename_i h;have hg:=wW h;obtain⟨l,hl⟩:=zV (l:=F.fs) (i:=(wQ F.bs a).toNat) (by rw[hw.len];exact yT hg);rw[getD_some hl];exact hX _ a l hg hl};{rename_i h;have han:a∈F.nb:=ha.resolve_left fun q=>h (wV q);have hg:=wW (wV han);have hlt:=yT hg;have:=p5 X (F.nb.getD (wQ F.nb a).toNat 0) 1 F.nb (List.replicate (F.nb.length+1) 0) (wQ F.nb a).toNat (by simp) hlt;rw[getD_some hg,zGW hg,aP] at this;rw[this,List.getD_eq_getElem?_getD,List.getElem?_replicate,if_pos (by omega)];simp only[Option.getD_some];grind}
theorem BRun.rel0 {v m:Nat}{z:(Nat->Rat)->Rat}{D:Nat->Dic}{l:Nat->List Rat}{r e:Nat->Nat}{k:Nat}(h:BRun (frV v) z D l r e k)(h0:(D 0).rel0 v m):∀ i,i<=k->(D i).rel0 v m
 |0,_=>h0| i+1,hi=>by have s:=h.step i hi;rw[s.2];exact Dic.rel0_piv (h.wf i (by omega)) s.1.hr s.1.he (by have:=s.1.rfr;simpa[frV] using this) (BRun.rel0 h h0 i (by omega))
section
variable {D:Dic} {v r:Nat}
structure Feas (v:Nat) (D E:Dic):Prop where
 wf:E.wf
 same:Same E D
 val:∀ X,D.Sat X->E.val X=D.val X
 feas:E.feas (frV v)
 rel0:E.rel0 v E.nb.length
 nl:E.nb.length=D.nb.length
theorem zDC {G:Dic}{a c:Nat}(hw:D.wf)(h1:a∉D.bs)(h2:a∉D.nb)(hG:G.wf)(hs:Same G (D.aux v a))(hv:∀ X,(D.aux v a).Sat X->G.val X=(D.aux v a).val X)(hf:G.feas (frV v))(h0:G.rel0 v G.nb.length)(hn:G.nb.length=D.nb.length+1)(hc:G.nb[c]?=some a):Feas v D (G.del c):=by
 have hcl:=yT hc;have hgc:G.nb.getD c 0=a:=getD_some hc;have hw4:=Dic.del_wf hG hcl;have hnl:=Dic.del_nl (D:=G) hcl;have hmem:∀ y,y∈(G.del c).nb↔y∈G.nb/\y≠a:=fun y=>by show y∈G.nb.eraseIdx c↔_;rw[List.mem_eraseIdx_iff_getElem?];constructor;{rintro⟨j,hj,hy⟩;exact⟨List.mem_of_getElem? hy,fun e=>hj (v6 hG.nb (by rw[hy,e]) hc)⟩};{rintro⟨hy,hne⟩;obtain⟨j,hj⟩:=wL hy;exact⟨j,fun e=>hne (by rw[e,hc] at hj;exact (Option.some.inj hj).symm),hj⟩}
 have hab:a∉G.bs:=fun q=>hG.ne q (List.mem_of_getElem? hc);have hvars:∀ y,(y∈(G.del c).bs\/y∈(G.del c).nb)↔(y∈D.bs\/y∈D.nb):=fun y=>by
  (have e1:=hs.vars y;have e2:y∈(D.aux v a).bs↔y∈D.bs:=Iff.rfl;have e3:y∈(D.aux v a).nb↔y∈D.nb\/y=a:=by show y∈D.nb++[a]↔_;simp);rw[e2,e3] at e1
  rw[hmem];show (y∈G.bs\/_)↔_;constructor;{rintro (q|q);{rcases e1.1 (.inl q) with q2|q2|q2;{exact .inl q2};{exact .inr q2};{exact absurd (q2 ▸ q) hab}};{rcases e1.1 (.inr q.1) with q2|q2|q2;{exact .inl q2};{exact .inr q2};{exact absurd q2 q.2}}};{intro q;have hya:y≠a:=fun e=>q.elim (fun q=>h1 (by rw[<-e];exact q)) (fun q=>h2 (by rw[<-e];exact q));rcases e1.2 (q.imp id .inl) with q2|q2;{exact .inl q2};{exact .inr ⟨q2,hya⟩}}
 have hX0:∀ X:Nat->Rat,∃ Y:Nat->Rat,Y a=0/\∀ y,y∈D.bs\/y∈D.nb->X y=Y y:=fun X=>⟨fun y=>if y=a then 0 else X y,if_pos rfl,fun y hy=>(if_neg (c:=y=a) (fun e=>hy.elim (fun q=>h1 (by rw[<-e];exact q)) (fun q=>h2 (by rw[<-e];exact q)))).symm⟩;have hauxs:∀ {Y:Nat->Rat},Y a=0->((D.aux v a).Sat Y↔D.Sat Y):=fun {Y} hY=>by rw[Dic.aux_sat hw];constructor;{intro h i b l hb hl;have:=h i b l hb hl;rw[hY,Rat.mul_zero,Rat.add_zero] at this;exact this};{intro h i b l hb hl;rw[hY,Rat.mul_zero,Rat.add_zero];exact h i b l hb hl}
 refine⟨hw4,⟨fun X=>?_,hvars⟩,fun X hX=>?_,fun j hj hfj=>?_,?_,by omega⟩;{obtain⟨Y,hY,hXY⟩:=hX0 X;rw[Dic.sat_congr hw4 (fun y hy=>hXY y ((hvars y).1 hy)),Dic.del_sat hG hcl (by rw[hgc];exact hY),hs.sat,hauxs hY,Dic.sat_congr hw hXY]};{obtain⟨Y,hY,hXY⟩:=hX0 X;have hDY:=(Dic.sat_congr hw hXY).1 hX;have hAY:=(hauxs hY).2 hDY;have e1:(G.del c).val X=(G.del c).val Y:=kN fun y hy=>hXY y ((hvars y).1 (.inr hy));have e2:D.val X=D.val Y:=kN fun y hy=>hXY y (.inr hy);rw[e1,e2,Dic.del_val hG hcl (by rw[hgc];exact hY),hv Y hAY,Dic.aux_val hw]};{have hj':j<G.bs.length:=hj;rw[Dic.del_cst hG hcl hj'];exact hf j hj' hfj};{intro e he1 he hev i hi hiv;have hi':i<G.bs.length:=hi;have hev':(G.nb.eraseIdx c).getD e 0<v:=hev;rw[iX] at hev';rw[Dic.del_at hG hi'];split;{rename_i hlt;rw[if_pos hlt] at hev';exact h0 e (by omega) (by omega) hev' i hi' hiv};{rename_i hlt;rw[if_neg hlt] at hev';exact h0 (e+1) (by omega) (by omega) hev' i hi' hiv}}
end
end Go.Proofs.YtfainocfaddbdaaGreat
