/- A part of the proof: SxU, SxV, LsA, LsB. -/
import Derived.Test.YtfainocfaddbdaaGreatY38
import Derived.Test.YtfainocfaddbdaaGreatY37
set_option linter.all false
namespace Go.Proofs.YtfainocfaddbdaaGreat
open Go
set_option maxRecDepth 100000
set_option maxHeartbeats 4000000
theorem p9 {f:Nat->Rat}{g:Nat->Nat}:∀ {S:List Nat},smL (S.map g) f=smL S (fun i=>f (g i))
 |[]=>rfl| i::S=>by show f (g i)+smL (S.map g) f=_;rw[p9];rfl
theorem zDX {f:Nat->Nat->Rat}{T:List Nat}:∀ {S:List Nat},smL S (fun i=>smL T (fun u=>f i u))=smL T (fun u=>smL S (fun i=>f i u))
 |[]=>(fO fun _ _=>rfl).symm| i::S=>by show smL T (fun u=>f i u)+smL S (fun i=>smL T (fun u=>f i u))=smL T (fun u=>f i u+smL S (fun i=>f i u));rw[zDX,jC]
theorem zB3 {f:Nat->Rat}{j:Nat}{S:List Nat}(hn:S.Nodup)(hj:j∈S)(h:∀ i,i∈S->i≠j->f i=0):smL S f=f j:=by rw[mY hj,fO fun i hi=>h i (List.mem_of_mem_erase hi) fun e=>(List.Nodup.not_mem_erase hn) (e ▸ hi)];grind
theorem zM0 {n:Nat}{X:Int->Rat}:∀ {ts:List (Int×Rat)},(∀ t,t∈ts->0<=t.1/\t.1<(n:Int))->evX X ts=smL (List.range n) (fun u=>co ts (u:Int)*X (u:Int))
 |[],_=>(fO fun u _=>by show (0:Rat)*_=0;grind).symm| t::r,h=>by
  (have ht:=h t List.mem_cons_self;have e:smL (List.range n) (fun u=>co (t::r) (u:Int)*X (u:Int))=smL (List.range n) (fun u=>(if t.1=(u:Int) then t.2 else 0)*X (u:Int))+smL (List.range n) (fun u=>co r (u:Int)*X (u:Int)):=by rw[<-jC];refine yV fun u _=>?_;show ((if t.1=(u:Int) then t.2 else 0)+co r (u:Int))*X (u:Int)=_;grind);rw[e,zB3 (j:=t.1.toNat) List.nodup_range (List.mem_range.2 (by omega)) (fun i _ hi=>by rw[if_neg (by omega)];grind),<-zM0 fun u hu=>h u (List.mem_cons_of_mem _ hu)];show t.2*X t.1+evX X r=(if t.1=((t.1.toNat:Nat):Int) then t.2 else 0)*X ((t.1.toNat:Nat):Int)+evX X r;rw[show ((t.1.toNat:Nat):Int)=t.1 by omega,if_pos rfl]
theorem gO {f:F}{n u:Nat}(h:u<n):(cfs f n).getD u 0=co f.ts (u:Int):=by unfold cfs;rw[List.getD_eq_getElem?_getD,List.getElem?_append_left (by simpa using h),List.getElem?_map,List.getElem?_range h];rfl
theorem gG {f:F}{n:Nat}:(cfs f n).getD n 0=f.c:=by unfold cfs;rw[List.getD_eq_getElem?_getD,List.getElem?_append_right (by simp)];simp
theorem zR4 {f:F}{n:Nat}{X:Int->Rat}(h:f.wf (n:Int)):f.at X=smL (List.range n) (fun u=>(cfs f n).getD u 0*X (u:Int))+(cfs f n).getD n 0:=by
 unfold F.at
 rw[zM0 h.v,gG];have:smL (List.range n) (fun u=>(cfs f n).getD u 0*X (u:Int))=smL (List.range n) (fun u=>co f.ts (u:Int)*X (u:Int)):=yV fun u hu=>by rw[gO (List.mem_range.1 hu)]
 rw[this];grind
structure Ini (W:Nat) (fs:List F) (r:Nat->Nat->Rat) (k:Nat->Rat):Prop where
 pos:∀ i,0<k i
 eq:∀ i f,fs[i]?=some f->∀ u,r i u=k i*(cfs f W).getD u 0
theorem nT {W:Nat}:∀ {fs:List F} {i:Nat} {acc l:List FR},cZ W fs i acc=some l->l.length=acc.length+fs.length/\(∀ j,j<acc.length->l[j]?=acc[j]?)/\∀ j f,fs[j]?=some f->l[acc.length+j]?=some ⟨(cD f W).1,2^(i+j)⟩/\(cD f W).2=true
 |[],i,acc,l,h=>by rw[cZ] at h;obtain rfl:=Option.some.inj h;exact⟨rfl,fun _ _=>rfl,fun j f hf=>by simp at hf⟩
 |f::r,i,acc,l,h=>by
  rw[cZ] at h;split at h
  ·rename_i hd;obtain⟨h1,h2,h3⟩:=nT h;rw[List.length_append,List.length_cons,List.length_nil] at h1 h2 h3;refine⟨by rw[h1,List.length_cons];omega,fun j hj=>by rw[h2 j (by omega),List.getElem?_append_left hj],fun j g hg=>?_⟩;cases j with
   |zero =>
    obtain rfl:=Option.some.inj (show some f=some g by simpa using hg);refine⟨?_,hd⟩;rw[Nat.add_zero,Nat.add_zero,h2 _ (by omega),List.getElem?_append_right (Nat.le_refl _),Nat.sub_self];rfl
   |succ j =>
    have:=h3 j g (by simpa using hg);rw[show acc.length+(j+1)=acc.length+(0+1)+j by omega,show i+(j+1)=i+1+j by omega];exact this
  {cases h}
theorem zNV {i j:Nat}:(2^i).testBit j=decide (i=j):=by rw[Nat.testBit_two_pow]
theorem zHE {N W i:Nat}{l:List FR}{f:F}(hi:i<N)(h:l[i]?=some ⟨(cD f W).1,2^i⟩)(hd:(cD f W).2=true):FOk N (fun i u=>(((l.getD i ⟨[],0⟩).at' u:Int):Rat)) (W+1) [] ⟨(cD f W).1,2^i⟩ (fun j=>if j=i then 1 else 0):=by
 obtain⟨d1,d2,_⟩:=zCU hd;refine⟨d1,⟨fun j=>?_,fun j hj=>if_neg fun e=>hj (List.mem_range.2 (by omega)),fun f hf=>absurd hf (by simp)⟩,fun u=>?_,fun j=>?_,?_,d2⟩
 ·(show (0:Rat)<=if j=i then 1 else 0);split <;> decide
 {rw[zB3 (j:=i) List.nodup_range (List.mem_range.2 hi) (fun j _ hj=>by rw[if_neg hj];grind),if_pos rfl,List.getD_eq_getElem?_getD,h];show _=1*_;rw[Rat.one_mul];rfl};{show (2^i).testBit j=_;rw[zNV];by_cases e:i=j;{subst e;rw[decide_eq_true rfl,if_pos rfl];decide};{rw[decide_eq_false e,if_neg (fun h=>e h.symm)];decide}};{exact Nat.pow_lt_pow_right (by decide) hi}
theorem zRL {W:Nat}{fs:List F}{l:List FR}(h:cZ W fs 0 []=some l):∃ r k,Ini W fs r k/\FLs fs.length r (W+1) [] l:=by
 obtain⟨h1,_,h3⟩:=nT h;simp only[List.length_nil,Nat.zero_add] at h1 h3
 
 have hk:∀ i:Nat,∃ q:Rat,0<q/\∀ f,fs[i]?=some f->∀ u,(((cD f W).1.getD u 0:Int):Rat)=q*(cfs f W).getD u 0:=fun i=>by
  cases hi:fs[i]? with
  |none=>exact⟨1,by decide,fun f hf=>by cases hf⟩| some f =>
   obtain⟨_,_,q,hq,hu⟩:=zCU (h3 i f hi).2;exact⟨q,hq,fun g hg=>by obtain rfl:=Option.some.inj hg;exact hu⟩
 obtain⟨k,hk⟩:=Classical.axiomOfChoice hk;refine⟨fun i u=>(((l.getD i ⟨[],0⟩).at' u:Int):Rat),k,⟨fun i=>(hk i).1,fun i f hf u=>?_⟩,?_,?_⟩;{show (((l.getD i ⟨[],0⟩).at' u:Int):Rat)=_;rw[List.getD_eq_getElem?_getD,(h3 i f hf).1];exact (hk i).2 f hf u}
 ·(intro p hp;obtain⟨i,hi⟩:=List.mem_iff_getElem?.1 hp;have hil:i<fs.length:=by have:=yG hi;omega);obtain⟨f,hf⟩:=zS hil
  obtain⟨g1,g2⟩:=h3 i f hf;rw[hi] at g1;obtain rfl:=Option.some.inj g1;exact⟨_,zHE hil (h3 i f hf).1 g2⟩
 ·
  intro y hy;have gen:∀ (n:Nat),n<=fs.length->Cone (fun y=>∃ p,p∈l/\FOk fs.length (fun i u=>(((l.getD i ⟨[],0⟩).at' u:Int):Rat)) (W+1) [] p y) (fun i=>if i<n then y i else 0):=fun n=>by
   induction n with
   |zero=>exact fun _=>Cone.zero.to fun i=>by rw[if_neg (by omega)]| succ n ih =>
    (intro hn;obtain⟨f,hf⟩:=zS (show n<fs.length by omega);obtain⟨g1,g2⟩:=h3 n f hf;refine (Cone.add (a:=y n) (y:=fun j=>if j=n then 1 else 0) (hy.nn n) ⟨_,List.mem_of_getElem? g1,zHE (by omega) g1 g2⟩ (ih (by omega))).to fun i=>?_;show y n*(if i=n then 1 else 0)+(if i<n then y i else 0)=if i<n+1 then y i else 0);by_cases e:i=n
    {subst e;rw[if_pos rfl,if_neg (by omega),if_pos (by omega)];grind};{rw[if_neg e];by_cases e2:i<n;{rw[if_pos e2,if_pos (by omega)];grind};{rw[if_neg e2,if_neg (by omega)];grind}}
  exact (gen fs.length (Nat.le_refl _)).to fun i=>by by_cases h:i<fs.length;{rw[if_pos h]};{rw[if_neg h,hy.off i (fun hm=>h (List.mem_range.1 hm))]}
theorem gJ {l:List FR}{done:List Bool}:∀ {vs:List Nat} {b:Int},(uE l done vs b=b\/∃ v,v∈vs/\done.getD v false=false/\uE l done vs b=(v:Int))/\(b<0->(∃ v,v∈vs/\done.getD v false=false)->0<=uE l done vs b)
 |[],b=>⟨.inl rfl,fun _ ⟨v,h,_⟩=>absurd h (by simp)⟩| v::r,b=>by rw[uE];split;{rename_i h;obtain⟨h1,h2⟩:=gJ (l:=l) (done:=done) (vs:=r) (b:=(v:Int));refine⟨?_,fun _ _=>?_⟩;{rcases h1 with h1|⟨w,a,b,c⟩;{exact .inr ⟨v,List.mem_cons_self,h.1,h1⟩};{exact .inr ⟨w,List.mem_cons_of_mem _ a,b,c⟩}};{rcases h1 with h1|⟨w,a,b,c⟩;{rw[h1];omega};{rw[c];omega}}};{rename_i h;obtain⟨h1,h2⟩:=gJ (l:=l) (done:=done) (vs:=r) (b:=b);refine⟨?_,fun hb ⟨w,hw,hd⟩=>?_⟩;{rcases h1 with h1|⟨w,a,b,c⟩;{exact .inl h1};{exact .inr ⟨w,List.mem_cons_of_mem _ a,b,c⟩}};{refine h2 hb ?_;rcases List.mem_cons.1 hw with rfl|hw;{exact absurd ⟨hd,.inl hb⟩ h};{exact⟨w,hw,hd⟩}}}
theorem eO:∀ {l E:List Nat},l.Nodup->(∀ x,x∈l->x∈E)->l.length<=E.length
 |[],E,_,_=>Nat.zero_le _| x::l,E,hn,h=>by obtain⟨h1,h2⟩:=List.nodup_cons.1 hn;have hx:=h x List.mem_cons_self;have:=eO (l:=l) (E:=E.erase x) h2 fun y hy=>(List.mem_erase_of_ne (fun e:y=x=>h1 (by rw[<-e];exact hy))).2 (h y (List.mem_cons_of_mem _ hy));rw[List.length_erase_of_mem hx] at this;have:=List.length_pos_of_mem hx;rw[List.length_cons];omega
structure DoneE (n:Nat) (done:List Bool) (E:List Nat):Prop where
 len:done.length=n
 nd:E.Nodup
 iff:∀ v,v<n->(done.getD v false=true↔v∈E)
 lt:∀ v,v∈E->v<n
theorem DoneE.open {n:Nat}{done:List Bool}{E:List Nat}(h:DoneE n done E)(hE:E.length<n):∃ v,v∈List.range n/\done.getD v false=false:=by
 refine Classical.byContradiction fun hno=>?_;have h1:∀ v,v<n->v∈E:=fun v hv=>(h.iff v hv).1 (by
  cases hd:done.getD v false with
  |true=>rfl| false=>exact absurd ⟨v,List.mem_range.2 hv,hd⟩ hno)
 have:=eO (l:=List.range n) (E:=E) List.nodup_range fun v hv=>h1 v (List.mem_range.1 hv);rw[List.length_range] at this;omega
theorem zBL {N W n:Nat}{r:Nat->Nat->Rat}:∀ {f:Nat} {done:List Bool} {l m:List FR} {E:List Nat},FLs N r W E l->DoneE n done E->E.length+f=n->mH n f done l=some m->∃ E',FLs N r W E' m/\(∀ v,v<n->v∈E')/\∀ v,v∈E'->v<n
 |0,done,l,m,E,h,hd,hl,he=>by rw[mH] at he;obtain rfl:=Option.some.inj he;refine⟨E,h,fun v hv=>?_,hd.lt⟩;refine Classical.byContradiction fun hno=>?_;have:=eO (l:=E) (E:=(List.range n).erase v) hd.nd fun w hw=>(List.mem_erase_of_ne (fun e:w=v=>hno (by rw[<-e];exact hw))).2 (List.mem_range.2 (hd.lt w hw));rw[List.length_erase_of_mem (List.mem_range.2 hv),List.length_range] at this;omega
 |f+1,done,l,m,E,h,hd,hl,he=>by
  rw[mH] at he;obtain⟨b1,b2⟩:=gJ (l:=l) (done:=done) (vs:=List.range n) (b:=-1);have b3:=b2 (by decide) (hd.open (by omega));obtain⟨v,hv,hdv,hb⟩:∃ v,v∈List.range n/\done.getD v false=false/\uE l done (List.range n) (-1)=(v:Int):=by rcases b1 with b1|b1;{omega};{exact b1}
  (rw[hb,Int.toNat_natCast] at he;have hvn:=List.mem_range.1 hv;have hvE:v∉E:=fun hm=>by rw[(hd.iff v hvn).2 hm] at hdv;cases hdv);split at he
  {cases he}
  ·cases hs:elS l v (n-f) with
   |none=>rw[hs] at he;cases he
   |some l' =>
    rw[hs] at he;refine zBL (E:=v::E) (h.step (by omega) hs) ⟨by rw[List.length_set];exact hd.len,List.nodup_cons.2 ⟨hvE,hd.nd⟩,fun w hw=>?_,fun w hw=>?_⟩ (by rw[List.length_cons];omega) he;{rw[List.getD_eq_getElem?_getD,List.getElem?_set];by_cases e:v=w;{subst e;rw[if_pos rfl,if_pos (by rw[hd.len];exact hw)];simp};{rw[if_neg e,<-List.getD_eq_getElem?_getD,hd.iff w hw];constructor;{exact fun h=>List.mem_cons_of_mem _ h};{intro h;rcases List.mem_cons.1 h with h|h;{exact absurd h.symm e};{exact h}}}};{rcases List.mem_cons.1 hw with rfl|hw;{exact hvn};{exact hd.lt w hw}}
def bC (n:Nat) (l:List FR) (t:Rat):Prop:=∀ p,p∈l->0<=((p.at' n:Int):Rat)*t+((p.at' (n+1):Int):Rat)
def mC (lo hi:Option Rat) (t:Rat):Prop:=(∀ a,lo=some a->a<=t)/\∀ b,hi=some b->t<=b
theorem sI {n:Nat}{p:FR}{l:List FR}{t:Rat}:bC n (p::l) t↔0<=((p.at' n:Int):Rat)*t+((p.at' (n+1):Int):Rat)/\bC n l t :=
 ⟨fun h=>⟨h p List.mem_cons_self,fun q hq=>h q (List.mem_cons_of_mem _ hq)⟩,fun⟨h1,h2⟩ q hq=>by
  rcases List.mem_cons.1 hq with rfl|hq;{exact h1}
  ·exact h2 q hq⟩
theorem zCT {a b:Int}:b8 a b=(a:Rat)*((b:Int):Rat)⁻¹:=by unfold b8;rw[<-Rat.div_def,Rat.divInt_eq_div]
theorem zS2 {a c:Int}{t:Rat}(ha:0<a):0<=(a:Rat)*t+(c:Rat)↔b8 (-c) a<=t:=by
 rw[zCT,Rat.intCast_neg];have h1:(0:Rat)<(a:Rat):=by exact_mod_cast ha
 have h2:=Rat.mul_inv_cancel (a:Rat) (by grind);have h3:=Rat.inv_pos.2 h1;generalize ((a:Int):Rat)⁻¹=w at *
 generalize ((a:Int):Rat)=a at *
 generalize ((c:Int):Rat)=c at *
 constructor
 ·(intro h;have:=Rat.mul_nonneg h (Rat.le_of_lt h3);have e:(a*t+c)*w=(a*w)*t+c*w:=by grind);rw[e,h2] at this
  grind
 ·(intro h;have:=Rat.mul_nonneg (show 0<=t - -c*w by grind) (Rat.le_of_lt h1);have e:(t - -c*w)*a=a*t+c*(a*w):=by grind);rw[e,h2] at this
  grind
theorem zS3 {a c:Int}{t:Rat}(ha:a<0):0<=(a:Rat)*t+(c:Rat)↔t<=b8 (-c) a:=by
 rw[zCT,Rat.intCast_neg];have h1:(a:Rat)<0:=by exact_mod_cast ha
 have h2:=Rat.mul_inv_cancel (a:Rat) (by grind);have h3:(a:Rat)⁻¹<0:=by by_cases h:(a:Rat)⁻¹<0;{exact h};{have:=Rat.mul_nonneg (show 0<=-(a:Rat) by grind) (show 0<=(a:Rat)⁻¹ by grind);grind}
 generalize ((a:Int):Rat)⁻¹=w at *
 generalize ((a:Int):Rat)=a at *
 generalize ((c:Int):Rat)=c at *
 constructor
 ·(intro h;have:=Rat.mul_nonneg h (show 0<=-w by grind);have e:(a*t+c) * -w=-((a*w)*t)+-(c*w):=by grind);rw[e,h2] at this
  grind
 ·(intro h;have:=Rat.mul_nonneg (show 0<=-c*w-t by grind) (show 0<=-a by grind);have e:(-c*w-t) * -a=c*(a*w)+a*t:=by grind);rw[e,h2] at this
  grind
theorem oT {n:Nat}:∀ {l:List FR} {lo hi:Option Rat},((∀ t,¬(mC lo hi t/\bC n l t))->uC n l lo hi=(2,0)) /\ (∀ z,mC lo hi z/\bC n l z->(∀ t,mC lo hi t/\bC n l t->z<=t)->uC n l lo hi=(1,z))/\((∀ m,∃ t,t<m/\mC lo hi t/\bC n l t)->uC n l lo hi=(3,0))
 |[],lo,hi=>by
  have hs:∀ t,bC n [] t:=fun t p hp=>absurd hp (by simp);cases lo with
  |none =>
   refine⟨fun h=>?_,fun z hz h=>?_,fun h=>rfl⟩
   ·exfalso;cases hi with
    |none=>exact h 0 ⟨⟨fun a h=>(by cases h),fun b h=>(by cases h)⟩,hs 0⟩| some b=>exact h b ⟨⟨fun a h=>(by cases h),fun c h=>by cases h;exact Rat.le_refl⟩,hs b⟩
   {exfalso;have:=h (z-1) ⟨⟨fun a h=>(by cases h),fun b hb=>by have:=hz.1.2 b hb;grind⟩,hs _⟩;grind}
  |some a =>
   cases hi with
   |none =>
    refine⟨fun h=>?_,fun z hz h=>?_,fun h=>?_⟩;{exact absurd ⟨⟨fun c hc=>by cases hc;exact Rat.le_refl,fun b h=>(by cases h)⟩,hs a⟩ (h a)};{have h1:=hz.1.1 a rfl;have h2:=h a ⟨⟨fun c hc=>by cases hc;exact Rat.le_refl,fun b h=>(by cases h)⟩,hs a⟩;show (1,a)=(1,z);rw[Rat.le_antisymm h1 h2]};{obtain⟨t,h1,h2,_⟩:=h a;have:=h2.1 a rfl;exact absurd h1 (by grind)}
   |some b =>
    refine⟨fun h=>?_,fun z hz h=>?_,fun h=>?_⟩;{show (if b<a then (2,(0:Rat)) else (1,a))=(2,0);by_cases hba:b<a;{rw[if_pos hba]};{exact absurd ⟨⟨fun c hc=>by cases hc;exact Rat.le_refl,fun c hc=>by cases hc;grind⟩,hs a⟩ (h a)}};{have h1:=hz.1.1 a rfl;have h3:=hz.1.2 b rfl;have h2:=h a ⟨⟨fun c hc=>by cases hc;exact Rat.le_refl,fun c hc=>by cases hc;grind⟩,hs a⟩;show (if b<a then (2,(0:Rat)) else (1,a))=(1,z);rw[if_neg (by grind),Rat.le_antisymm h1 h2]};{obtain⟨t,h1,h2,_⟩:=h a;have:=h2.1 a rfl;exact absurd h1 (by grind)}
 |p::r,lo,hi=>by
  rw[uC]
  
  have key:∀ lo' hi',(∀ t,mC lo hi t/\bC n (p::r) t↔mC lo' hi' t/\bC n r t)->∀ R,R=uC n r lo' hi' ->
    ((∀ t,¬(mC lo hi t/\bC n (p::r) t))->R=(2,0))/\(∀ z,mC lo hi z/\bC n (p::r) z->(∀ t,mC lo hi t/\bC n (p::r) t->z<=t)->R=(1,z))/\((∀ m,∃ t,t<m/\mC lo hi t/\bC n (p::r) t)->R=(3,0)):=fun lo' hi' he R hR=>by
   obtain⟨h1,h2,h3⟩:=oT (n:=n) (l:=r) (lo:=lo') (hi:=hi');refine⟨fun h=>?_,fun z hz h=>?_,fun h=>?_⟩;{rw[hR];exact h1 fun t ht=>h t ((he t).2 ht)};{rw[hR];exact h2 z ((he z).1 hz) fun t ht=>h t ((he t).2 ht)};{rw[hR];exact h3 fun m=>by obtain⟨t,a,b⟩:=h m;exact⟨t,a,(he t).1 b⟩}
  by_cases h0:p.at' n=0
  ·rw[if_pos h0];by_cases hc:p.at' (n+1)<0
   ·rw[if_pos hc];have hno:∀ t,¬(mC lo hi t/\bC n (p::r) t):=fun t ht=>by
     (have:=(sI.1 ht.2).1;rw[h0] at this;have h1:((p.at' (n+1):Int):Rat)<0:=by exact_mod_cast hc);have h2:(((0:Int)):Rat)=0:=rfl
     rw[h2] at this;exact absurd this (by grind)
    refine⟨fun _=>rfl,fun z hz _=>absurd hz (hno z),fun h=>?_⟩;obtain⟨t,_,ht⟩:=h 0;exact absurd ht (hno t)
   ·rw[if_neg hc];refine key lo hi (fun t=>?_) _ rfl;rw[sI,h0];have h1:(0:Rat)<=((p.at' (n+1):Int):Rat):=by
     have:0<=p.at' (n+1):=by omega
     exact_mod_cast this
    have h2:(((0:Int)):Rat)=0:=rfl;rw[h2];exact⟨fun h=>⟨h.1,h.2.2⟩,fun h=>⟨h.1,by grind,h.2⟩⟩
  ·rw[if_neg h0];by_cases hp:0<p.at' n
   ·rw[if_pos hp];refine key _ hi (fun t=>?_) _ rfl;rw[sI,zS2 hp];show _↔mC (some (zGR (b8 (-(p.at' (n+1))) (p.at' n)) lo)) hi t/\bC n r t;generalize b8 (-(p.at' (n+1))) (p.at' n)=v;cases lo with
    |none=>exact⟨fun h=>⟨⟨fun a ha=>by cases ha;exact h.2.1,h.1.2⟩,h.2.2⟩,fun h=>⟨⟨fun a ha=>(by cases ha),h.1.2⟩,h.1.1 _ rfl,h.2⟩⟩| some a =>
     refine⟨fun h=>⟨⟨fun b hb=>?_,h.1.2⟩,h.2.2⟩,fun h=>?_⟩;{cases hb;have:=h.1.1 a rfl;unfold zGR;dsimp only;split;{exact h.2.1};{exact this}};{have h1:=h.1.1 _ rfl;unfold zGR at h1;dsimp only at h1;refine⟨⟨fun b hb=>?_,h.1.2⟩,?_,h.2⟩;{cases hb;split at h1 <;> grind};{split at h1 <;> grind}}
   ·rw[if_neg hp];refine key lo _ (fun t=>?_) _ rfl;rw[sI,zS3 (by omega)];show _↔mC lo (some (zGT (b8 (-(p.at' (n+1))) (p.at' n)) hi)) t/\bC n r t;generalize b8 (-(p.at' (n+1))) (p.at' n)=v;cases hi with
    |none=>exact⟨fun h=>⟨⟨h.1.1,fun a ha=>by cases ha;exact h.2.1⟩,h.2.2⟩,fun h=>⟨⟨h.1.1,fun a ha=>(by cases ha)⟩,h.1.2 _ rfl,h.2⟩⟩| some a =>
     refine⟨fun h=>⟨⟨h.1.1,fun b hb=>?_⟩,h.2.2⟩,fun h=>?_⟩;{cases hb;have:=h.1.2 a rfl;unfold zGT;dsimp only;split;{exact h.2.1};{exact this}};{have h1:=h.1.2 _ rfl;unfold zGT at h1;dsimp only at h1;refine⟨⟨h.1.1,fun b hb=>?_⟩,?_,h.2⟩;{cases hb;split at h1 <;> grind};{split at h1 <;> grind}}
section
variable {n N:Nat} {r:Nat->Nat->Rat} {k:Nat->Rat} {fs:List F} {l:List FR}
theorem zRM (h:Ini (n+1) fs r k)(hw:∀ f,f∈fs->f.wf ((n+1:Nat):Int)){X:Int->Rat}{i:Nat}{f:F}(hi:fs[i]?=some f):smL (List.range (n+1)) (fun u=>r i u*X (u:Int))+r i (n+1)=k i*f.at X:=by
 rw[zR4 (hw f (List.mem_of_getElem? hi)),h.eq i f hi];have e:smL (List.range (n+1)) (fun u=>r i u*X (u:Int))=k i*smL (List.range (n+1)) (fun u=>(cfs f (n+1)).getD u 0*X (u:Int)):=by rw[<-v5];exact yV fun u _=>by rw[h.eq i f hi];grind
 rw[e];grind
theorem zQX (h:Ini (n+1) fs r k)(hw:∀ f,f∈fs->f.wf ((n+1:Nat):Int)){E:List Nat}(hE:∀ v,v<n->v∈E)(hl:FLs fs.length r (n+2) E l){X:Int->Rat}(hX:Pts fs X):bC n l (X (n:Int)):=fun p hp=>by
 obtain⟨y,hy⟩:=hl.ok p hp;have h1:smL (List.range (n+1)) (fun u=>((p.at' u:Int):Rat)*X (u:Int))=((p.at' n:Int):Rat)*X (n:Int):=by
  (refine zB3 (j:=n) (f:=fun u=>((p.at' u:Int):Rat)*X (u:Int)) List.nodup_range (List.mem_range.2 (by omega)) fun u hu hne=>?_;have hu':u<n:=by have:=List.mem_range.1 hu;omega);have:((p.at' u:Int):Rat)=0:=by rw[hy.col u];exact hy.can.col (fun i=>r i u) (List.mem_map.2 ⟨u,hE u hu',rfl⟩)
  rw[this];grind
 have h2:smL (List.range (n+1)) (fun u=>((p.at' u:Int):Rat)*X (u:Int))+((p.at' (n+1):Int):Rat)=smL (List.range fs.length) (fun i=>y i*(smL (List.range (n+1)) (fun u=>r i u*X (u:Int))+r i (n+1))):=by
  (have e1:smL (List.range (n+1)) (fun u=>((p.at' u:Int):Rat)*X (u:Int))=smL (List.range (n+1)) (fun u=>smL (List.range fs.length) (fun i=>y i*r i u*X (u:Int))):=yV fun u _=>by rw[hy.col u,Rat.mul_comm,<-v5];exact yV fun i _=>by grind);rw[e1,<-zDX,hy.col (n+1),<-jC];refine yV fun i _=>?_;have:smL (List.range (n+1)) (fun u=>y i*r i u*X (u:Int))=y i*smL (List.range (n+1)) (fun u=>r i u*X (u:Int)):=by rw[<-v5];exact yV fun u _=>by grind
  rw[this];grind
 rw[<-h1,h2];have key:∀ S:List Nat,(∀ i,i∈S->i<fs.length)->0<=smL S (fun i=>y i*(smL (List.range (n+1)) (fun u=>r i u*X (u:Int))+r i (n+1))):=fun S=>by
  induction S with
  |nil=>exact fun _=>Rat.le_refl| cons i S ih =>
   intro hS;obtain⟨f,hf⟩:=zS (hS i List.mem_cons_self);have h3:=ih fun j hj=>hS j (List.mem_cons_of_mem _ hj);have h4:=Rat.mul_nonneg (hy.can.nn i) (Rat.mul_nonneg (Rat.le_of_lt (h.pos i)) (hX f (List.mem_of_getElem? hf)));rw[<-zRM h hw hf] at h4;rw[smL];grind
 exact key _ fun i hi=>List.mem_range.1 hi
theorem zH9 (h:Ini (n+1) fs r k){Y:Nat->Rat}(u:Nat):smL (List.range fs.length) (fun i=>(k i)⁻¹*Y i*r i u)=smL (List.range fs.length) (fun i=>Y i*(cfs (fs.getD i F.zero) (n+1)).getD u 0):=yV fun i hi=>by
 obtain⟨f,hf⟩:=zS (List.mem_range.1 hi);rw[h.eq i f hf,List.getD_eq_getElem?_getD (l:=fs),hf];have:=Rat.inv_mul_cancel (k i) (by have:=h.pos i;intro e;rw[e] at this;exact absurd this (by decide));show (k i)⁻¹*Y i*(k i*(cfs f (n+1)).getD u 0)=Y i*(cfs f (n+1)).getD u 0;have e:(k i)⁻¹*Y i*(k i*(cfs f (n+1)).getD u 0)=((k i)⁻¹*k i)*(Y i*(cfs f (n+1)).getD u 0):=by grind
 rw[e,this];grind
theorem zPB (h:Ini (n+1) fs r k){E:List Nat}(hE':∀ v,v∈E->v<n)(hl:FLs fs.length r (n+2) E l){Y:Nat->Rat}(hY:∀ i,i<fs.length->0<=Y i)(hc:∀ u,u<n->smL (List.range fs.length) (fun i=>Y i*(cfs (fs.getD i F.zero) (n+1)).getD u 0)=0):Cone (fun y=>∃ p,p∈l/\FOk fs.length r (n+2) E p y) (fun i=>if i<fs.length then (k i)⁻¹*Y i else 0):=by
 refine hl.gen _ ⟨fun i=>?_,fun i hi=>if_neg fun e=>hi (List.mem_range.2 e),fun f hf=>?_⟩
 ·(show (0:Rat)<=if i<fs.length then (k i)⁻¹*Y i else 0);split
  {rename_i hi;exact Rat.mul_nonneg (Rat.le_of_lt (Rat.inv_pos.2 (h.pos i))) (hY i hi)};{exact Rat.le_refl}
 ·(obtain⟨v,hv,rfl⟩:=List.mem_map.1 hf;have:smL (List.range fs.length) (fun i=>(if i<fs.length then (k i)⁻¹*Y i else 0)*r i v)=smL (List.range fs.length) (fun i=>(k i)⁻¹*Y i*r i v):=yV fun i hi=>by rw[if_pos (List.mem_range.1 hi)]);rw[this,zH9 h,hc v (hE' v hv)]
theorem zIR (h:Ini (n+1) fs r k){Y:Nat->Rat}(u:Nat):smL (List.range fs.length) (fun i=>(if i<fs.length then (k i)⁻¹*Y i else 0)*r i u)=smL (List.range fs.length) (fun i=>Y i*(cfs (fs.getD i F.zero) (n+1)).getD u 0):=by
 have:smL (List.range fs.length) (fun i=>(if i<fs.length then (k i)⁻¹*Y i else 0)*r i u)=smL (List.range fs.length) (fun i=>(k i)⁻¹*Y i*r i u):=yV fun i hi=>by rw[if_pos (List.mem_range.1 hi)]
 rw[this,zH9 h]
theorem zMS (h:Ini (n+1) fs r k){E:List Nat}(hE':∀ v,v∈E->v<n)(hl:FLs fs.length r (n+2) E l){Y:Nat->Rat}(hY:∀ i,i<fs.length->0<=Y i)(hc:∀ u,u<n->smL (List.range fs.length) (fun i=>Y i*(cfs (fs.getD i F.zero) (n+1)).getD u 0)=0) {t b:Rat} (hb:smL (List.range fs.length) (fun i=>Y i*(cfs (fs.getD i F.zero) (n+1)).getD n 0)*t+smL (List.range fs.length) (fun i=>Y i*(cfs (fs.getD i F.zero) (n+1)).getD (n+1) 0)=b) (ht:bC n l t):0<=b:=by
 have hC:=zPB h hE' hl hY hc;have h1:=hC.lin (M:=List.range fs.length) (f:=fun i=>r i n*t+r i (n+1)) fun w ⟨p,hp,hy⟩=>by
  (have:=ht p hp;rw[hy.col n,hy.col (n+1)] at this;have e:smL (List.range fs.length) (fun i=>w i*(r i n*t+r i (n+1)))=smL (List.range fs.length) (fun i=>w i*r i n)*t+smL (List.range fs.length) (fun i=>w i*r i (n+1)):=by rw[Rat.mul_comm _ t,<-v5,<-jC];exact yV fun i _=>by grind);rw[e];exact this
 rw[<-hb,<-zIR h,<-zIR h];have e:∀ w:Nat->Rat,smL (List.range fs.length) (fun i=>w i*(r i n*t+r i (n+1)))=smL (List.range fs.length) (fun i=>w i*r i n)*t+smL (List.range fs.length) (fun i=>w i*r i (n+1)):=fun w=>by rw[Rat.mul_comm _ t,<-v5,<-jC];exact yV fun i _=>by grind
 rw[<-e];exact h1
end
theorem zG8 (u:Int):∀ {fs:List F} {ds:List Rat} {acc:F},ds.length=fs.length->co (u6 fs ds acc).ts u=co acc.ts u+smL (List.range fs.length) (fun j=>ds.getD j 0*co (fs.getD j F.zero).ts u)/\(u6 fs ds acc).c=acc.c+smL (List.range fs.length) (fun j=>ds.getD j 0*(fs.getD j F.zero).c)
 |[],[],acc,_=>by unfold u6;refine⟨?_,?_⟩;{show co acc.ts u=co acc.ts u+0;grind};{show acc.c=acc.c+0;grind}| [],d::ds,acc,h=>by simp at h| f::fs,[],acc,h=>by simp at h| f::fs,d::ds,acc,h=>by
  (obtain⟨h1,h2⟩:=zG8 u (fs:=fs) (ds:=ds) (acc:=acc.add (f.scale d)) (by simpa using h);have hc:(acc.add (f.scale d)).c=acc.c+d*f.c:=by show acc.c+(0+f.c*d)*1=_;grind);unfold u6;rw[h1,h2,zR0,zLY,hc,List.length_cons,List.range_succ_eq_map];show _=co acc.ts u+((d::ds).getD 0 0*co ((f::fs).getD 0 F.zero).ts u+smL ((List.range fs.length).map Nat.succ) _)/\_=acc.c+((d::ds).getD 0 0*((f::fs).getD 0 F.zero).c+smL ((List.range fs.length).map Nat.succ) _);rw[p9,p9];refine⟨?_,?_⟩;{show _=co acc.ts u+(d*co f.ts u+smL (List.range fs.length) (fun i=>ds.getD i 0*co (fs.getD i F.zero).ts u));grind};{show _=acc.c+(d*f.c+smL (List.range fs.length) (fun i=>ds.getD i 0*(fs.getD i F.zero).c));grind}
def mulY (a:Rat) (du:List Rat):Nat->Rat
 |0=>a| 1=>0| j+2=>du.getD j 0
theorem cO {n:Nat}{fs:List F}{ob:F}{a:Rat}{du:List Rat}(hd:du.length=fs.length)(u:Nat):smL (List.range (pV n fs ob).length) (fun i=>mulY a du i*(cfs ((pV n fs ob).getD i F.zero) (n+1)).getD u 0) =a*(cfs ((F.var n).sub ob) (n+1)).getD u 0+(cfs (u6 fs du F.zero) (n+1)).getD u 0:=by
 have hl:(pV n fs ob).length=fs.length+1+1:=rfl;rw[hl,List.range_succ_eq_map,List.range_succ_eq_map,smL,List.map_cons,smL,p9,p9];have key:(cfs (u6 fs du F.zero) (n+1)).getD u 0=smL (List.range fs.length) (fun j=>du.getD j 0*(cfs (fs.getD j F.zero) (n+1)).getD u 0):=by
  by_cases hu:u<n+1
  ·(rw[gO hu,(zG8 (u:Int) hd).1];have:co F.zero.ts (u:Int)=0:=rfl;rw[this];have e:smL (List.range fs.length) (fun j=>du.getD j 0*(cfs (fs.getD j F.zero) (n+1)).getD u 0)=smL (List.range fs.length) (fun j=>du.getD j 0*co (fs.getD j F.zero).ts (u:Int)):=yV fun j _=>by rw[gO hu]);rw[e];grind
  ·by_cases hu2:u=n+1
   ·(subst hu2;rw[gG,(zG8 0 hd).2];have e:smL (List.range fs.length) (fun j=>du.getD j 0*(cfs (fs.getD j F.zero) (n+1)).getD (n+1) 0)=smL (List.range fs.length) (fun j=>du.getD j 0*(fs.getD j F.zero).c):=yV fun j _=>by rw[gG]);rw[e]
    show 0+_=_;grind
   ·(have hz:∀ f:F,(cfs f (n+1)).getD u 0=0:=fun f=>by rw[List.getD_eq_getElem?_getD,List.getElem?_eq_none (by rw[zCW];omega)];rfl);rw[hz,fO fun j _=>by rw[hz];grind]
 rw[key];show a*(cfs ((F.var n).sub ob) (n+1)).getD u 0+(0*_+smL (List.range fs.length) (fun j=>du.getD j 0*(cfs (fs.getD j F.zero) (n+1)).getD u 0))=_;grind
theorem zOL {n:Nat}{fs:List F}{ob:F}{X:Int->Rat}:Pts (pV n fs ob) X↔X n=ob.at X/\Pts fs X:=by constructor;{intro h;have h1:=h _ List.mem_cons_self;have h2:=h _ (List.mem_cons_of_mem _ List.mem_cons_self);rw[zAG] at h2;rw[zDO,zHA] at h1 h2;exact⟨by grind,fun f hf=>h f (List.mem_cons_of_mem _ (List.mem_cons_of_mem _ hf))⟩};{intro⟨h1,h2⟩ f hf;rcases List.mem_cons.1 hf with rfl|hf;{rw[zDO,zHA,h1];grind};{rcases List.mem_cons.1 hf with rfl|hf;{rw[zAG,zDO,zHA,h1];grind};{exact h2 f hf}}}
theorem zM4 {n:Nat}{f:F}{X:Int->Rat}{t:Rat}(h:f.wf (n:Int)):f.at (fun i=>if i=(n:Int) then t else X i)=f.at X:=zFL fun u hu=>if_neg (by have:=(h.v u hu).2;omega)
theorem zLI {n:Nat}{fs:List F}{ob:F}{s:SolR}(hw:∀ f,f∈fs->f.wf (n:Int))(ho:ob.wf (n:Int))(h:SolOk n (fs.map (lnS n)) (lnS n ob) s)(he:(d8 n fs ob).1≠0):(d8 n fs ob)=(s.st,s.val):=by
 have hsem:=h.sem hw ho;unfold d8 at he ⊢;split at he;{exact absurd rfl he}
 ·rename_i h62;rw[if_neg h62];split at he;{exact absurd rfl he}
  ·rename_i l hl;split at he;{exact absurd rfl he}
   ·rename_i m hm;obtain⟨r,k,hI,hF⟩:=zRL hl;obtain⟨E,hE,hEa,hEb⟩:=zBL (n:=n) hF ⟨by simp,.nil,fun v hv=>by simp[List.getD_eq_getElem?_getD,List.getElem?_replicate,hv],fun v hv=>absurd hv (by simp)⟩ (by simp) hm;have hwa:∀ f,f∈pV n fs ob->f.wf ((n+1:Nat):Int):=fun f hf=>by have ht:((F.var n).sub ob).wf ((n+1:Nat):Int):=(F.wf.var (by omega) (by omega)).sub (ho.mono (by omega));rcases List.mem_cons.1 hf with rfl|hf;{exact ht};{rcases List.mem_cons.1 hf with rfl|hf;{exact ht.scale};{exact (hw f hf).mono (by omega)}}
    
    (have pt:∀ X,Pts fs X->bC n m (ob.at X):=fun X hX=>by have:=zQX hI hwa hEa hE (X:=fun i=>if i=(n:Int) then ob.at X else X i) (zOL.2 ⟨by rw[zM4 ho,if_pos rfl],fun f hf=>by rw[zM4 (hw f hf)];exact hX f hf⟩);rwa [if_pos rfl] at this);have hin:∀ t,mC none none t:=fun t=>⟨fun a h=>(by cases h),fun a h=>(by cases h)⟩;obtain⟨s1,s2,s3⟩:=oT (n:=n) (l:=m) (lo:=none) (hi:=none);rcases hsem.one with e|e|e
    ·(obtain⟨⟨X,hX,hv⟩,hmin⟩:=hsem.opt e;rw[e];refine s2 s.val ⟨hin _,hv ▸ pt X hX⟩ fun t ht=>?_;obtain⟨_,_,_,h4,h5,_,_⟩:=h.opt e;rw[List.length_map] at h4;obtain⟨g1,g2⟩:=h.sub hw ho e;have hcm:=zDN (ds:=s.du) (acc:=F.zero) hw F.wf.zero;have co1:∀ u:Int,co ob.ts u=co (u6 fs s.du F.zero).ts u:=fun u=>by have:=zG6 ob (u6 fs s.du F.zero) u;rw[g1] at this;have h0:co [] u=0:=rfl;rw[h0] at this;grind);have cc:ob.c-(u6 fs s.du F.zero).c=s.val:=by rw[<-g2];show _=ob.c+(u6 fs s.du F.zero).c * -1;grind
     have hn:=zMS hI hEb hE (Y:=mulY 1 s.du) (t:=t) (b:=t-s.val) (fun i _=>?_) (fun u hu=>?_) ?_ ht.2;{grind}
     ·match i with
      |0=>exact (by decide:(0:Rat)<=1)| 1=>exact Rat.le_refl| j+2 =>
       show 0<=s.du.getD j 0;by_cases hj:j<s.du.length;{exact h5 _ (yT hj)};{rw[List.getD_eq_getElem?_getD,List.getElem?_eq_none (by omega)];exact Rat.le_refl}
     {rw[cO h4,gO (by omega),gO (by omega),zG6,co1,zM2];have:dlt (n:Int) (u:Int)=0:=if_neg (by omega);rw[this];grind}
     ·(rw[cO h4,cO h4,gO (by omega),gO (by omega),gG,gG,zG6,co1,zM2];have:dlt (n:Int) (n:Int)=1:=if_pos rfl;rw[this];have hc:((F.var n).sub ob).c=-ob.c:=by show (0:Rat)+ob.c * -1=_;grind);rw[hc];grind
    ·obtain⟨hz,hno⟩:=hsem.inf e;rw[e,hz];refine s1 fun t ht=>?_;obtain⟨_,_,_,h4,h5,_⟩:=h.inf e;rw[List.length_map] at h4;obtain⟨g1,g2⟩:=h.neg hw e;have hn:=zMS hI hEb hE (Y:=mulY 0 s.du) (t:=t) (b:=(u6 fs s.du F.zero).c) (fun i _=>?_) (fun u hu=>?_) ?_ ht.2;{grind}
     ·match i with
      |0=>exact Rat.le_refl| 1=>exact Rat.le_refl| j+2 =>
       show 0<=s.du.getD j 0;by_cases hj:j<s.du.length;{exact h5 _ (yT hj)};{rw[List.getD_eq_getElem?_getD,List.getElem?_eq_none (by omega)];exact Rat.le_refl}
     {rw[cO h4,gO (by omega),gO (by omega),g1];show 0*_+(0:Rat)=0;grind};{rw[cO h4,cO h4,gO (by omega),gO (by omega),gG,gG,g1];show (0*_+(0:Rat))*t+(0*_+_)=_;grind}
    {obtain⟨hz,hu⟩:=hsem.unb e;rw[e,hz];refine s3 fun b=>?_;obtain⟨X,hX,hlt⟩:=hu b;exact⟨_,hlt,hin _,pt X hX⟩}
theorem pJ {c0 c1 c:Int}(h0:c0.natAbs<=8)(h1:c1.natAbs<=8)(h2:c.natAbs<=8):(frm c0 c1 c).fl 5 2:=by have ht:=zBH h0 h1;refine⟨fun t h=>?_,(bB h2).mono (by decide),dU _ _⟩;exact zCL (m:=1) (g:=[((0:Int),(c0:Rat)),(1,(c1:Rat))]) (l:=[]) (fun t h=>(ht t h).2) (fun t h=>absurd h (by simp)) t h
theorem iL {f:F}{n:Int}(h:(fA f).valid n=true):f.wf n:=by
 have:=(a9 h).2;have e:(fA f).f=f:=by obtain⟨ts,c⟩:=f;show (⟨tq (tR ts),(zO c).q⟩:F)=⟨ts,c⟩;rw[zGM,y4]
 rwa [e] at this
def exRw:List F:=[frm 1 2 (-4),frm 1 0 0,frm 0 1 0]
theorem zRP:frm 1 2 (-4)=⟨[(0,1),(1,2)],-4⟩/\frm 1 0 0=⟨[(0,1)],0⟩/\frm 0 1 0=⟨[(1,1)],0⟩/\frm 1 1 0=⟨[(0,1),(1,1)],0⟩/\frm (-1) (-1) 1=⟨[(0,-1),(1,-1)],1⟩/\frm (-1) 0 0=⟨[(0,-1)],0⟩:=by refine⟨?_,?_,?_,?_,?_,?_⟩ <;> (unfold frm;congr 1)
theorem at2 {X:Int->Rat}{a b:Int}{p q c:Rat}:(⟨[(a,p),(b,q)],c⟩:F).at X=c+(p*X a+(q*X b+0)):=rfl
theorem at1 {X:Int->Rat}{a:Int}{p c:Rat}:(⟨[(a,p)],c⟩:F).at X=c+(p*X a+0):=rfl
theorem zKI (X:Int->Rat):(frm 1 2 (-4)).at X=X 0+2*X 1-4/\(frm 1 0 0).at X=X 0/\(frm 0 1 0).at X=X 1/\(frm 1 1 0).at X=X 0+X 1/\(frm (-1) (-1) 1).at X=1-X 0-X 1/\(frm (-1) 0 0).at X=- X 0:=by obtain⟨h1,h2,h3,h4,h5,h6⟩:=zRP;rw[h1,h2,h3,h4,h5,h6,at2,at1,at1,at2,at2,at1];refine⟨?_,?_,?_,?_,?_,?_⟩ <;> grind
theorem pts3 {a b c:F}{X:Int->Rat}:Pts [a,b,c] X↔0<=a.at X/\0<=b.at X/\0<=c.at X:=by unfold Pts;simp
theorem pts4 {a b c d:F}{X:Int->Rat}:Pts [a,b,c,d] X↔0<=a.at X/\0<=b.at X/\0<=c.at X/\0<=d.at X:=by unfold Pts;simp
theorem pts1 {a:F}{X:Int->Rat}:Pts [a] X↔0<=a.at X:=by unfold Pts;simp
theorem zO4 {st:Nat}{z:Rat}(h:Sem exRw (frm 1 1 0) st z):st=1/\z=2:=by
 have lo:∀ X,Pts exRw X->2<=(frm 1 1 0).at X:=fun X hX=>by obtain⟨h1,h2,h3,h4,h5,h6⟩:=zKI X;obtain⟨g1,g2,g3⟩:=pts3.1 hX;grind
 have h0:∃ X:Int->Rat,X 0=0/\X 1=2:=⟨fun i=>if i=1 then 2 else 0,by decide,by decide⟩;obtain⟨X,e0,e1⟩:=h0;have hp:Pts exRw X/\(frm 1 1 0).at X=2:=by obtain⟨h1,h2,h3,h4,h5,h6⟩:=zKI X;refine⟨pts3.2 ⟨?_,?_,?_⟩,?_⟩ <;> grind
 rcases h.one with e|e|e;{obtain⟨⟨Y,y1,y2⟩,y3⟩:=h.opt e;have h1:=lo Y y1;have h2:=y3 X hp.1;exact⟨e,by grind⟩};{exact absurd hp.1 ((h.inf e).2 X)};{obtain⟨Y,y1,y2⟩:=(h.unb e).2 2;have h1:=lo Y y1;exact absurd y2 (by grind)}
theorem zO3 {st:Nat}{z:Rat}(h:Sem (exRw++[frm (-1) (-1) 1]) (frm 1 1 0) st z):st=2:=by
 have no:∀ X,¬Pts (exRw++[frm (-1) (-1) 1]) X:=fun X hX=>by obtain⟨h1,h2,h3,h4,h5,h6⟩:=zKI X;obtain⟨g1,g2,g3,g4⟩:=pts4.1 hX;grind
 rcases h.one with e|e|e;{obtain⟨⟨Y,y1,y2⟩,y3⟩:=h.opt e;exact absurd y1 (no Y)};{exact e};{obtain⟨Y,y1,y2⟩:=(h.unb e).2 2;exact absurd y1 (no Y)}
theorem zO2 {st:Nat}{z:Rat}(h:Sem [frm 1 0 0] (frm (-1) 0 0) st z):st=3:=by
 have pt:∀ c:Rat,0<=c->Pts [frm 1 0 0] (fun _=>c)/\(frm (-1) 0 0).at (fun _=>c)=-c:=fun c hc=>by obtain⟨h1,h2,h3,h4,h5,h6⟩:=zKI (fun _=>c);exact⟨pts1.2 (by grind),h6⟩
 rcases h.one with e|e|e;{obtain⟨⟨Y,y1,y2⟩,y3⟩:=h.opt e;by_cases hz:0<=-z;{obtain⟨p1,p2⟩:=pt (-z+1) (by grind);have:=y3 _ p1;grind};{obtain⟨p1,p2⟩:=pt 0 (by decide);have:=y3 _ p1;grind}};{exact absurd (pt 0 (by decide)).1 ((h.inf e).2 _)};{exact e}
theorem ex_pw:PW 2 exRw (frm 1 1 0) 5 2:=⟨by decide,by decide,fun f hf=>by
 have:f=frm 1 2 (-4)\/f=frm 1 0 0\/f=frm 0 1 0:=by simpa[exRw] using hf
 rcases this with rfl|rfl|rfl;{exact⟨pJ (by decide) (by decide) (by decide),iL (by decide +kernel)⟩};{exact⟨pJ (by decide) (by decide) (by decide),iL (by decide +kernel)⟩}
 ·exact⟨pJ (by decide) (by decide) (by decide),iL (by decide +kernel)⟩,⟨pJ (by decide) (by decide) (by decide),iL (by decide +kernel)⟩,by decide,by decide,by decide⟩
theorem ex_pw2:PW 2 (exRw++[frm (-1) (-1) 1]) (frm 1 1 0) 5 2:=⟨by decide,by decide,fun f hf=>by
 rcases List.mem_append.1 hf with hf|hf;{exact ex_pw.rows f hf}
 ·(have:f=frm (-1) (-1) 1:=by simpa using hf);subst this
  exact⟨pJ (by decide) (by decide) (by decide),iL (by decide +kernel)⟩,ex_pw.obj,by decide,by decide,by decide⟩
theorem ex_pw3:PW 1 [frm 1 0 0] (frm (-1) 0 0) 5 2:=⟨by decide,by decide,fun f hf=>by
 have:f=frm 1 0 0:=by simpa using hf
 subst this;exact⟨pJ (by decide) (by decide) (by decide),iL (by decide +kernel)⟩,⟨pJ (by decide) (by decide) (by decide),iL (by decide +kernel)⟩,by decide,by decide,by decide⟩
theorem zSV:zJ 18 [] (.bool (fun _=>true)):=by
 obtain⟨s1,a1⟩:=ex_pw.solve;obtain⟨s2,a2⟩:=ex_pw2.solve;obtain⟨s3,a3⟩:=ex_pw3.solve;obtain⟨t1,z1⟩:=zO4 a1.sem;have t2:=zO3 a2.sem;have t3:=zO2 a3.sem;have k1:=a1.call;have k2:=a2.call;have k3:=a3.call;have kf:=i6 (c0:=-1) (c1:=-1) (c:=1) (by decide) (by decide) (by decide);have kg:=i6 (c0:=-1) (c1:=0) (c:=0) (by decide) (by decide) (by decide);have kh:=i6 (c0:=1) (c1:=0) (c:=0) (by decide) (by decide) (by decide);have ko:=s32 2 (by decide) (by decide);have f2:Fits 1 (2:Rat):=⟨by decide,by decide⟩;have kc:=zFF 2 (f2.mono (by decide));rw[show ((2:Int):Rat)=2 from rfl] at ko;obtain⟨a,ha⟩:∃ a,fA (frm 1 1 0)=a:=⟨_,rfl⟩;obtain⟨b,hb⟩:∃ a,fA (frm 1 2 (-4))=a:=⟨_,rfl⟩;obtain⟨c,hc⟩:∃ a,fA (frm 1 0 0)=a:=⟨_,rfl⟩;obtain⟨d,hd⟩:∃ a,fA (frm 0 1 0)=a:=⟨_,rfl⟩;obtain⟨e,he⟩:∃ a,fA (frm (-1) (-1) 1)=a:=⟨_,rfl⟩;obtain⟨f,hf⟩:∃ a,fA (frm (-1) 0 0)=a:=⟨_,rfl⟩;have ce:=zSU a b c d ha hb hc hd;have e1:exRw.map fA=[b,c,d]:=by show [fA _,fA _,fA _]=_;rw[hb,hc,hd]
 have e2:(exRw++[frm (-1) (-1) 1]).map fA=[b,c,d,e]:=by rw[List.map_append,e1];show [b,c,d,fA _]=_;rw[he]
 have e3:[frm 1 0 0].map fA=[c]:=by show [fA _]=_;rw[hc]
 have e4:((2:Nat):Int)=2:=rfl;have e5:((1:Nat):Int)=1:=rfl;have k1':zJ 20 [.agg [.int .i64 (fun _=>((2:Nat):Int)),alv (exRw.map fA),tsv (fA (frm 1 1 0)).ts,.bool (fun _=>(fA (frm 1 1 0)).c.neg),nat (fA (frm 1 1 0)).c.num,nat (fA (frm 1 1 0)).c.den]] (.tup [slv s1,.int .i64 (fun _=>0)]):=k1;have k2':zJ 20 [.agg [.int .i64 (fun _=>((2:Nat):Int)),alv ((exRw++[frm (-1) (-1) 1]).map fA),tsv (fA (frm 1 1 0)).ts,.bool (fun _=>(fA (frm 1 1 0)).c.neg),nat (fA (frm 1 1 0)).c.num,nat (fA (frm 1 1 0)).c.den]] (.tup [slv s2,.int .i64 (fun _=>0)]):=k2;have k3':zJ 20 [.agg [.int .i64 (fun _=>((1:Nat):Int)),alv ([frm 1 0 0].map fA),tsv (fA (frm (-1) 0 0)).ts,.bool (fun _=>(fA (frm (-1) 0 0)).c.neg),nat (fA (frm (-1) 0 0)).c.num,nat (fA (frm (-1) 0 0)).c.den]] (.tup [slv s3,.int .i64 (fun _=>0)]):=k3;rw[e1,ha,e4] at k1';rw[e2,ha,e4] at k2';rw[e3,hf,e5] at k3';clear e1 e2 e3 e4 e5;rw[he] at kf;rw[hf] at kg;rw[hc] at kh;clear k1 k2 k3 a1 a2 a3 ha hb hc hd he hf;obtain⟨st1,v1,p1,d1,r1,b1,n1⟩:=s1;obtain⟨st2,v2,p2,d2,r2,b2,n2⟩:=s2;obtain⟨st3,v3,p3,d3,r3,b3,n3⟩:=s3;dsimp only at t1 t2 t3 z1;subst t1 t2 t3 z1;unfold slv at k1' k2' k3';dsimp only at k1' k2' k3';obtain⟨Z,hZ⟩:∃ Z,zO 2=Z:=⟨_,rfl⟩;obtain⟨Z2,hZ2⟩:∃ Z,zO v2=Z:=⟨_,rfl⟩;obtain⟨Z3,hZ3⟩:∃ Z,zO v3=Z:=⟨_,rfl⟩;have ko':zJ 26 [.int .i64 (fun _=>2)] (rv Z):=by rw[<-hZ];exact ko
 rw[hZ] at k1' kc;rw[hZ2] at k2';rw[hZ3] at k3';clear ko hZ hZ2 hZ3;obtain⟨ats,ac0⟩:=a;obtain⟨bts,bc⟩:=b;obtain⟨cts,cc⟩:=c;obtain⟨dts,dc⟩:=d;obtain⟨ets,ec⟩:=e;obtain⟨fts,fc⟩:=f;refine sF Tryz.f18 ?_;cbv;refine yX (fun _=>201) (.refl _) rfl (by exact trivial) ce (by exact trivial) rfl rfl rfl rfl rfl rfl rfl rfl ?_;cbv;refine gI (.frz 201 rfl rfl (by cbv;repeat' first|exact trivial|exact yF (by simp[zM])|apply And.intro) (by cbv;repeat' first|exact trivial|exact yF (by simp[zM])|apply And.intro)) rfl (by exact⟨⟨lR,zY rfl,lR,lR,lR,lR,trivial⟩,trivial⟩) k1' rfl ?_;cbv;refine yX (fun _=>202) (.refl _) rfl (by exact trivial) ce (by exact trivial) rfl rfl rfl rfl rfl rfl rfl rfl ?_;cbv;refine zX 4 (by cbv) ?_;cbv;refine dA kf ?_;cbv;refine vM zMA rfl rfl rfl (by rfl) rfl ⟨by simp[yS,xJ]⟩ (yE (by simp[yS,zM] <;> omega) (by simp[yS,zM])) rfl ?_;cbv;refine gI (.frz 18 rfl rfl (by cbv;repeat' first|exact trivial|exact yF (by simp[zM])|apply And.intro) (by cbv;repeat' first|exact trivial|exact yF (by simp[zM])|apply And.intro)) rfl (by exact⟨⟨lR,zY rfl,lR,lR,lR,lR,trivial⟩,trivial⟩) k2' rfl ?_;cbv;refine cA kg ?_;cbv;refine cA kh ?_;cbv;refine zR6 ?_;cbv;refine xO rfl (by exact⟨⟨lR,zY rfl,lR,lR,lR,lR,trivial⟩,trivial⟩) k3' rfl ?_;cbv;refine zX 33 (by cbv) ?_;cbv;refine bT rfl ?_;cbv;refine bT rfl ?_;cbv;refine dA ko' ?_;cbv;refine dA kc ?_;cbv;refine bT rfl ?_;cbv;refine bT rfl ?_;cbv;refine bT rfl ?_;cbv;refine bT rfl ?_;cbv
 (refine rC ?_;cbv)
 exact zK rfl
theorem zQ8 {tru:Bool}(h:tru=true):zJ 18 [] (.bool (fun _=>tru)):=by rw[h];exact zSV
end Go.Proofs.YtfainocfaddbdaaGreat
