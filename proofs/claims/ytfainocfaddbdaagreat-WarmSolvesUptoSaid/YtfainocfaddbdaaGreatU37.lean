/- A part of the proof: SxT, SxU, SxV, LsA, LsB. -/
import Derived.Test.YtfainocfaddbdaaGreatU36
import Derived.Test.YtfainocfaddbdaaGreatU35
set_option linter.all false
namespace Go.Proofs.YtfainocfaddbdaaGreat
open Go
set_option maxRecDepth 100000
set_option maxHeartbeats 4000000
structure FOk (N:Nat) (r:Nat->Nat->Rat) (W:Nat) (E:List Nat) (p:FR) (y:Nat->Rat):Prop where
 len:p.c.length=W
 can:Canc (List.range N) (E.map fun v=>fun i=>r i v) y
 col:∀ u,((p.at' u:Int):Rat)=smL (List.range N) (fun i=>y i*r i u)
 bit:∀ i,p.fr.testBit i=decide (y i≠0)
 lt:p.fr<2^N
 ab:∀ x,x∈p.c->x.natAbs<=1073741824
structure FLs (N:Nat) (r:Nat->Nat->Rat) (W:Nat) (E:List Nat) (l:List FR):Prop where
 ok:∀ p,p∈l->∃ y,FOk N r W E p y
 gen:Gen (List.range N) (E.map fun v=>fun i=>r i v) (fun y=>∃ p,p∈l/\FOk N r W E p y)
theorem zHP {p:FR}{v k:Nat}:∀ {l out o:List FR},elJ p v k l out=some o->(∀ x,x∈out->x∈o)/\(∀ q,q∈l->elC p q v k->t5 p q v∈o/\(dI (cM p q v)).2=true)/\∀ x,x∈o->x∈out\/∃ q,q∈l/\elC p q v k/\x=t5 p q v/\(dI (cM p q v)).2=true
 |[],out,o,h=>by rw[elJ] at h;obtain rfl:=vC h;exact⟨fun x h=>h,fun q hq=>absurd hq (by simp),fun x h=>.inl h⟩
 |q::r,out,o,h=>by rw[elJ] at h;split at h;{rename_i hc;split at h;{rename_i hr;obtain⟨h1,h2,h3⟩:=zHP h;refine⟨fun x hx=>h1 x (dB _ hx),fun q' hq' hc'=>?_,fun x hx=>?_⟩;{rcases z9.1 hq' with rfl|hq';{exact⟨h1 _ (c9 _ xD),hr⟩};{exact h2 q' hq' hc'}};{rcases h3 x hx with hx|⟨q',a,b,c,d⟩;{rcases wQ.1 hx with hx|hx;{exact .inl hx};{exact .inr ⟨q,xD,hc,by simpa using hx,hr⟩}};{exact .inr ⟨q',xI _ a,b,c,d⟩}}};{cases h}};{rename_i hc;obtain⟨h1,h2,h3⟩:=zHP h;refine⟨h1,fun q' hq' hc'=>?_,fun x hx=>?_⟩;{rcases z9.1 hq' with rfl|hq';{exact absurd hc' hc};{exact h2 q' hq' hc'}};{rcases h3 x hx with hx|⟨q',a,b,c,d⟩;{exact .inl hx};{exact .inr ⟨q',xI _ a,b,c,d⟩}}}
theorem zHR {v k:Nat}{l:List FR}:∀ {ps out o:List FR},elI v k l ps out=some o->(∀ x,x∈out->x∈o)/\(∀ p,p∈ps->∀ q,q∈l->elC p q v k->t5 p q v∈o/\(dI (cM p q v)).2=true)/\∀ x,x∈o->x∈out\/∃ p q,p∈ps/\q∈l/\elC p q v k/\x=t5 p q v/\(dI (cM p q v)).2=true
 |[],out,o,h=>by rw[elI] at h;obtain rfl:=vC h;exact⟨fun x h=>h,fun q hq=>absurd hq (by simp),fun x h=>.inl h⟩
 |p::r,out,o,h=>by
  rw[elI] at h;cases hj:elJ p v k l out with
  |none=>rw[hj] at h;cases h
  |some o1 =>
   rw[hj] at h;obtain⟨g1,g2,g3⟩:=zHP hj;obtain⟨h1,h2,h3⟩:=zHR (ps:=r) h;refine⟨fun x hx=>h1 x (g1 x hx),fun p' hp' q hq hc=>?_,fun x hx=>?_⟩;{rcases z9.1 hp' with rfl|hp';{exact⟨h1 _ (g2 q hq hc).1,(g2 q hq hc).2⟩};{exact h2 p' hp' q hq hc}};{rcases h3 x hx with hx|⟨p',q',a,b⟩;{rcases g3 x hx with hx|⟨q',a,b⟩;{exact .inl hx};{exact .inr ⟨p,q',xD,a,b⟩}};{exact .inr ⟨p',q',xI _ a,b⟩}}
theorem zGK {p q:FR}{v:Nat}(u:Nat)(h:p.c.length=q.c.length):(cM p q v).getD u 0=p.at' u * -(q.at' v)+q.at' u*p.at' v:=by
 unfold cM;rw[yC,vU];by_cases hu:u<p.c.length;{rw[zLF hu];rfl}
 ·(rw[jT (by rw[dC];omega)];have h1:p.at' u=0:=by unfold FR.at';rw[yC,jT oM];rfl);have h2:q.at' u=0:=by unfold FR.at';rw[yC,jT oM];rfl
  rw[h1,h2];simp
theorem zMZ {a y:Rat}(ha:0<a)(h:a*y=0):y=0:=by rcases Rat.mul_eq_zero.1 h with h|h;{rw[h] at ha;exact absurd ha (by decide)};{exact h}
theorem zVO {a b y z:Rat}(ha:0<a)(hb:0<b)(hy:0<=y)(hz:0<=z):a*y+b*z=0↔y=0/\z=0:=by have b1:=kR (dD ha) hy;have b2:=kR (dD hb) hz;refine⟨fun h=>⟨zMZ ha (by grind),zMZ hb (by grind)⟩,fun⟨h1,h2⟩=>by rw[h1,h2];grind⟩
theorem zW2 {a b g y z:Rat}(ha:0<a)(hb:0<b)(hg:0<g)(hy:0<=y)(hz:0<=z):(decide (y≠0) || decide (z≠0))=decide (g*(a*y+b*z)≠0):=by rw[aZ,alT1,dne,dne,dne];have h:=zVO ha hb hy hz;constructor;{intro h1 h2;obtain⟨h3,h4⟩:=h.1 (zMZ hg h2);rcases h1 with h1|h1;{exact h1 h3};{exact h1 h4}};{intro h1;by_cases hy0:y=0;{right;intro hz0;exact h1 (by rw[h.2 ⟨hy0,hz0⟩];grind)};{exact .inl hy0}}
section
variable {N W:Nat} {r:Nat->Nat->Rat} {E:List Nat}
theorem FOk.keep {p:FR}{y:Nat->Rat}{v:Nat}(h:FOk N r W E p y)(h0:p.at' v=0):FOk N r W (v::E) p y :=
 ⟨h.len,⟨h.can.nn,h.can.off,fun f hf=>by
  rcases z9.1 hf with rfl|hf;{show smL (List.range N) (fun i=>y i*r i v)=0;rw[<-h.col v,h0];rfl}
  ·exact h.can.col f hf⟩,h.col,h.bit,h.lt,h.ab⟩
theorem FOk.pair {p q:FR}{y z:Nat->Rat}{v:Nat}(hp:FOk N r W E p y)(hq:FOk N r W E q z)(h1:0<p.at' v)(h2:q.at' v<0)(hr:(dI (cM p q v)).2=true):∃ g:Rat,0<g/\FOk N r W (v::E) (t5 p q v) (fun i=>g*(-((q.at' v:Int):Rat)*y i+((p.at' v:Int):Rat)*z i)):=by
 obtain⟨e1,⟨g,hg,e2⟩,e3⟩:=zHE hr;have a1:(0:Rat)<((p.at' v:Int):Rat):=by exact_mod_cast h1
 have a2:(0:Rat) < -((q.at' v:Int):Rat):=by
  (have:((q.at' v:Int):Rat)<0:=by exact_mod_cast h2);grind
 have hgi:(0:Rat)<(g:Rat)⁻¹:=iL.2 (by exact_mod_cast hg);have hgm:(g:Rat)⁻¹*(g:Rat)=1:=zBQ _ (by
  (intro e;have:g=0:=by exact_mod_cast e);omega)
 have hlin:∀ (w:Rat) (f:Nat->Rat),smL (List.range N) (fun i=>w*(-((q.at' v:Int):Rat)*y i+((p.at' v:Int):Rat)*z i)*f i)=w*(-((q.at' v:Int):Rat)*smL (List.range N) (fun i=>y i*f i)+((p.at' v:Int):Rat)*smL (List.range N) (fun i=>z i*f i)):=fun w f=>by rw[<-kH,<-kH,<-fS,<-kH];exact xL fun i _=>by grind
 have hcol:∀ u,((((t5 p q v).at' u:Int)):Rat)=smL (List.range N) (fun i=>(g:Rat)⁻¹*(-((q.at' v:Int):Rat)*y i+((p.at' v:Int):Rat)*z i)*r i u):=fun u=>by
  rw[hlin,<-hp.col u,<-hq.col u];have e4:=e2 u;rw[zGK u (by rw[hp.len,hq.len])] at e4;have e5:((g:Nat):Rat)*(((t5 p q v).at' u:Int):Rat)=((p.at' u:Int):Rat) * -((q.at' v:Int):Rat)+((q.at' u:Int):Rat)*((p.at' v:Int):Rat):=by
   (have:(((p.at' u * -(q.at' v)+q.at' u*p.at' v:Int)):Rat)=(((g:Int)*(dI (cM p q v)).1.getD u 0:Int):Rat):=by rw[e4]);rw[Rat.intCast_add,zE9,zE9,zE9,Rat.intCast_neg] at this
   exact this.symm
  generalize ((((t5 p q v).at' u:Int)):Rat)=x at *
  (have:x=(g:Rat)⁻¹*(g:Rat)*x:=by rw[hgm];grind);rw[this,Rat.mul_assoc,e5]
  grind
 refine⟨(g:Rat)⁻¹,hgi,⟨?_,⟨fun i=>?_,fun i hi=>by rw[hp.can.off i hi,hq.can.off i hi];grind,fun f hf=>?_⟩,hcol,fun i=>?_,?_,e3⟩⟩;{show (dI (cM p q v)).1.length=W;rw[e1];unfold cM;rw[y8,dC,hp.len]};{have b1:=kR (dD a2) (hp.can.nn i);have b2:=kR (dD a1) (hq.can.nn i);exact kR (dD hgi) (by grind)};{rcases z9.1 hf with rfl|hf;{show smL (List.range N) (fun i=>(g:Rat)⁻¹*(-((q.at' v:Int):Rat)*y i+((p.at' v:Int):Rat)*z i)*r i v)=0;rw[hlin,<-hp.col v,<-hq.col v];grind};{rw[hlin,hp.can.col f hf,hq.can.col f hf];grind}};{show (p.fr ||| q.fr).testBit i=_;rw[Nat.testBit_or,hp.bit,hq.bit];exact zW2 a2 a1 hgi (hp.can.nn i) (hq.can.nn i)};{exact c5 hp.lt hq.lt}
theorem FLs.step {l m:List FR}{v k:Nat}(h:FLs N r W E l)(hk:k=E.length+1)(he:elS l v k=some m):FLs N r W (v::E) m:=by
 unfold elS at he;obtain⟨h1,h2,h3⟩:=zHR he;refine⟨fun p hp=>?_,?_⟩;{rcases h3 p hp with hp|⟨a,b,ha,hb,hc,rfl,hr⟩;{obtain⟨g1,g2⟩:=List.mem_filter.1 hp;obtain⟨y,hy⟩:=h.ok p g1;exact⟨y,hy.keep (of_decide_eq_true g2)⟩};{obtain⟨y,hy⟩:=h.ok a ha;obtain⟨z,hz⟩:=h.ok b hb;obtain⟨g,_,hg⟩:=hy.pair hz hc.1 hc.2.1 hr;exact⟨_,hg⟩}}
 ·refine Gen.step (P:=fun y=>∃ p,p∈l/\FOk N r W E p y) (f:=fun i=>r i v) iJ (fun w ⟨p,_,hp⟩ i=>hp.can.nn i) h.gen fun w hw hl=>?_;rw[y8] at hl;cases hw with
  |keep hw h0 =>
   obtain⟨p,hp,hy⟩:=hw;have h0':p.at' v=0:=by
    have:=hy.col v;rw[show smL (List.range N) (fun i=>w i*r i v)=0 from h0] at this
    exact_mod_cast this
   exact .one ⟨p,h1 p (List.mem_filter.2 ⟨hp,decide_eq_true h0'⟩),hy.keep h0'⟩
  | @pair y z hy hz h4 h5 =>
   obtain⟨p,hp,hy⟩:=hy;obtain⟨q,hq,hz⟩:=hz;have e1:=hy.col v;have e2:=hz.col v;have c1:0<p.at' v:=by
    have:(0:Rat)<((p.at' v:Int):Rat):=by rw[e1];exact h4
    exact_mod_cast this
   have c2:q.at' v<0:=by
    have:((q.at' v:Int):Rat)<0:=by rw[e2];exact h5
    exact_mod_cast this
   rw[<-e1,<-e2] at hl ⊢
   
   have hsup:jR (p.fr ||| q.fr)<=k+1:=by
    (rw[zEB N _ (c5 hy.lt hz.lt)];refine vS ?_ (show (rD (List.range N) fun i=>-((q.at' v:Int):Rat)*y i+((p.at' v:Int):Rat)*z i).length<=k+1 by rw[hk];exact hl);unfold rD;refine (nM fun i _ hi=>?_).1;rw[Nat.testBit_or,hy.bit,hz.bit] at hi;have a1:(0:Rat)<((p.at' v:Int):Rat):=by exact_mod_cast c1);have a2:(0:Rat) < -((q.at' v:Int):Rat):=by
     (have:((q.at' v:Int):Rat)<0:=by exact_mod_cast c2);grind
    rw[zW2 a2 a1 (show (0:Rat)<1 by decide) (hy.can.nn i) (hz.can.nn i)] at hi;refine dne.2 fun h=>dne.1 hi (by have h:-((q.at' v:Int):Rat)*y i+((p.at' v:Int):Rat)*z i=0:=h;rw[h];grind)
   have hc:elC p q v k:=⟨c1,c2,hsup⟩;obtain⟨hin,hred⟩:=h2 p hp q hq hc;obtain⟨g,hg,hf⟩:=hy.pair hz c1 c2 hred;have:=(Cone.one (P:=fun y=>∃ p,p∈m/\FOk N r W (v::E) p y) ⟨_,hin,hf⟩).scale (b:=g⁻¹) (dD (iL.2 hg));refine this.to fun i=>?_;have hgm:g⁻¹*g=1:=zBQ _ (by intro e;rw[e] at hg;exact absurd hg (by decide));rw[<-Rat.mul_assoc,hgm];grind
end
theorem i4 {f:Nat->Rat}{g:Nat->Nat}:∀ {S:List Nat},smL (S.map g) f=smL S (fun i=>f (g i))
 |[]=>rfl| i::S=>by show f (g i)+smL (S.map g) f=_;rw[i4];rfl
theorem zI9 {f:Nat->Nat->Rat}{T:List Nat}:∀ {S:List Nat},smL S (fun i=>smL T (fun u=>f i u))=smL T (fun u=>smL S (fun i=>f i u))
 |[]=>(bX fun _ _=>rfl).symm| i::S=>by show smL T (fun u=>f i u)+smL S (fun i=>smL T (fun u=>f i u))=smL T (fun u=>f i u+smL S (fun i=>f i u));rw[zI9,fS]
theorem zG6 {f:Nat->Rat}{j:Nat}{S:List Nat}(hn:S.Nodup)(hj:j∈S)(h:∀ i,i∈S->i≠j->f i=0):smL S f=f j:=by rw[oY hj,bX fun i hi=>h i (List.mem_of_mem_erase hi) fun e=>(List.Nodup.not_mem_erase hn) (e ▸ hi)];grind
theorem zTP {n:Nat}{X:Int->Rat}:∀ {ts:List (Int×Rat)},(∀ t,t∈ts->0<=t.1/\t.1<(n:Int))->evX X ts=smL (List.range n) (fun u=>co ts (u:Int)*X (u:Int))
 |[],_=>(bX fun u _=>by show (0:Rat)*_=0;grind).symm| t::r,h=>by
  (have ht:=h t xD;have e:smL (List.range n) (fun u=>co (t::r) (u:Int)*X (u:Int))=smL (List.range n) (fun u=>(if t.1=(u:Int) then t.2 else 0)*X (u:Int))+smL (List.range n) (fun u=>co r (u:Int)*X (u:Int)):=by rw[<-fS];refine xL fun u _=>?_;show ((if t.1=(u:Int) then t.2 else 0)+co r (u:Int))*X (u:Int)=_;grind);rw[e,zG6 (j:=t.1.toNat) iJ (wZ.2 oM) (fun i _ hi=>by rw[if_neg oM];grind),<-zTP fun u hu=>h u (xI _ hu)];show t.2*X t.1+evX X r=(if t.1=((t.1.toNat:Nat):Int) then t.2 else 0)*X ((t.1.toNat:Nat):Int)+evX X r;rw[show ((t.1.toNat:Nat):Int)=t.1 by omega,if_pos rfl]
theorem cY {f:F}{n u:Nat}(h:u<n):(cfs f n).getD u 0=co f.ts (u:Int):=by unfold cfs;rw[yC,uD (by simpa using h),vU,zLF h];rfl
theorem cN {f:F}{n:Nat}:(cfs f n).getD n 0=f.c:=by unfold cfs;rw[yC,uN (by simp)];simp
theorem zZI {f:F}{n:Nat}{X:Int->Rat}(h:f.wf (n:Int)):f.at X=smL (List.range n) (fun u=>(cfs f n).getD u 0*X (u:Int))+(cfs f n).getD n 0:=by
 unfold F.at
 rw[zTP h.v,cN];have:smL (List.range n) (fun u=>(cfs f n).getD u 0*X (u:Int))=smL (List.range n) (fun u=>co f.ts (u:Int)*X (u:Int)):=xL fun u hu=>by rw[cY (wZ.1 hu)]
 rw[this];grind
structure Ini (W:Nat) (fs:List F) (r:Nat->Nat->Rat) (k:Nat->Rat):Prop where
 pos:∀ i,0<k i
 eq:∀ i f,fs[i]?=some f->∀ u,r i u=k i*(cfs f W).getD u 0
theorem zAP {W:Nat}:∀ {fs:List F} {i:Nat} {acc l:List FR},rY W fs i acc=some l->l.length=acc.length+fs.length/\(∀ j,j<acc.length->l[j]?=acc[j]?)/\∀ j f,fs[j]?=some f->l[acc.length+j]?=some ⟨(sW f W).1,2^(i+j)⟩/\(sW f W).2=true
 |[],i,acc,l,h=>by rw[rY] at h;obtain rfl:=vC h;exact⟨rfl,fun _ _=>rfl,fun j f hf=>by simp at hf⟩
 |f::r,i,acc,l,h=>by
  rw[rY] at h;split at h
  ·rename_i hd;obtain⟨h1,h2,h3⟩:=zAP h;rw[wP,x7,f9] at h1 h2 h3;refine⟨by rw[h1,x7];omega,fun j hj=>by rw[h2 j oM,uD hj],fun j g hg=>?_⟩;cases j with
   |zero =>
    obtain rfl:=vC (show some f=some g by simpa using hg);refine⟨?_,hd⟩;rw[gM,gM,h2 _ oM,uN (zV _),dM];rfl
   |succ j =>
    have:=h3 j g (by simpa using hg);rw[show acc.length+(j+1)=acc.length+(0+1)+j by omega,show i+(j+1)=i+1+j by omega];exact this
  {cases h}
theorem zUV {i j:Nat}:(2^i).testBit j=decide (i=j):=by rw[Nat.testBit_two_pow]
theorem zNI {N W i:Nat}{l:List FR}{f:F}(hi:i<N)(h:l[i]?=some ⟨(sW f W).1,2^i⟩)(hd:(sW f W).2=true):FOk N (fun i u=>(((l.getD i ⟨[],0⟩).at' u:Int):Rat)) (W+1) [] ⟨(sW f W).1,2^i⟩ (fun j=>if j=i then 1 else 0):=by
 obtain⟨d1,d2,_⟩:=zHW hd;refine⟨d1,⟨fun j=>?_,fun j hj=>if_neg fun e=>hj (wZ.2 oM),fun f hf=>absurd hf (by simp)⟩,fun u=>?_,fun j=>?_,?_,d2⟩
 ·(show (0:Rat)<=if j=i then 1 else 0);split <;> decide
 {rw[zG6 (j:=i) iJ (wZ.2 hi) (fun j _ hj=>by rw[if_neg hj];grind),if_pos rfl,yC,h];show _=1*_;rw[Rat.one_mul];rfl};{show (2^i).testBit j=_;rw[zUV];by_cases e:i=j;{subst e;rw[decide_eq_true rfl,if_pos rfl];decide};{rw[decide_eq_false e,if_neg (fun h=>e h.symm)];decide}};{exact gB (by decide) hi}
theorem zYX {W:Nat}{fs:List F}{l:List FR}(h:rY W fs 0 []=some l):∃ r k,Ini W fs r k/\FLs fs.length r (W+1) [] l:=by
 obtain⟨h1,_,h3⟩:=zAP h;simp only[f9,xA] at h1 h3
 
 have hk:∀ i:Nat,∃ q:Rat,0<q/\∀ f,fs[i]?=some f->∀ u,(((sW f W).1.getD u 0:Int):Rat)=q*(cfs f W).getD u 0:=fun i=>by
  cases hi:fs[i]? with
  |none=>exact⟨1,by decide,fun f hf=>by cases hf⟩| some f =>
   obtain⟨_,_,q,hq,hu⟩:=zHW (h3 i f hi).2;exact⟨q,hq,fun g hg=>by obtain rfl:=vC hg;exact hu⟩
 obtain⟨k,hk⟩:=Classical.axiomOfChoice hk;refine⟨fun i u=>(((l.getD i ⟨[],0⟩).at' u:Int):Rat),k,⟨fun i=>(hk i).1,fun i f hf u=>?_⟩,?_,?_⟩;{show (((l.getD i ⟨[],0⟩).at' u:Int):Rat)=_;rw[yC,(h3 i f hf).1];exact (hk i).2 f hf u}
 ·(intro p hp;obtain⟨i,hi⟩:=mL.1 hp;have hil:i<fs.length:=by have:=yO hi;omega);obtain⟨f,hf⟩:=zO hil
  obtain⟨g1,g2⟩:=h3 i f hf;rw[hi] at g1;obtain rfl:=vC g1;exact⟨_,zNI hil (h3 i f hf).1 g2⟩
 ·
  intro y hy;have gen:∀ (n:Nat),n<=fs.length->Cone (fun y=>∃ p,p∈l/\FOk fs.length (fun i u=>(((l.getD i ⟨[],0⟩).at' u:Int):Rat)) (W+1) [] p y) (fun i=>if i<n then y i else 0):=fun n=>by
   induction n with
   |zero=>exact fun _=>Cone.zero.to fun i=>by rw[if_neg oM]| succ n ih =>
    (intro hn;obtain⟨f,hf⟩:=zO (show n<fs.length by omega);obtain⟨g1,g2⟩:=h3 n f hf;refine (Cone.add (a:=y n) (y:=fun j=>if j=n then 1 else 0) (hy.nn n) ⟨_,zZ g1,zNI oM g1 g2⟩ (ih oM)).to fun i=>?_;show y n*(if i=n then 1 else 0)+(if i<n then y i else 0)=if i<n+1 then y i else 0);by_cases e:i=n
    {subst e;rw[if_pos rfl,if_neg oM,if_pos oM];grind};{rw[if_neg e];by_cases e2:i<n;{rw[if_pos e2,if_pos oM];grind};{rw[if_neg e2,if_neg oM];grind}}
  exact (gen fs.length (zV _)).to fun i=>by by_cases h:i<fs.length;{rw[if_pos h]};{rw[if_neg h,hy.off i (fun hm=>h (wZ.1 hm))]}
theorem cP {l:List FR}{done:List Bool}:∀ {vs:List Nat} {b:Int},(kQ l done vs b=b\/∃ v,v∈vs/\done.getD v false=false/\kQ l done vs b=(v:Int))/\(b<0->(∃ v,v∈vs/\done.getD v false=false)->0<=kQ l done vs b)
 |[],b=>⟨.inl rfl,fun _ ⟨v,h,_⟩=>absurd h (by simp)⟩| v::r,b=>by rw[kQ];split;{rename_i h;obtain⟨h1,h2⟩:=cP (l:=l) (done:=done) (vs:=r) (b:=(v:Int));refine⟨?_,fun _ _=>?_⟩;{rcases h1 with h1|⟨w,a,b,c⟩;{exact .inr ⟨v,xD,h.1,h1⟩};{exact .inr ⟨w,xI _ a,b,c⟩}};{rcases h1 with h1|⟨w,a,b,c⟩;{rw[h1];omega};{rw[c];omega}}};{rename_i h;obtain⟨h1,h2⟩:=cP (l:=l) (done:=done) (vs:=r) (b:=b);refine⟨?_,fun hb ⟨w,hw,hd⟩=>?_⟩;{rcases h1 with h1|⟨w,a,b,c⟩;{exact .inl h1};{exact .inr ⟨w,xI _ a,b,c⟩}};{refine h2 hb ?_;rcases z9.1 hw with rfl|hw;{exact absurd ⟨hd,.inl hb⟩ h};{exact⟨w,hw,hd⟩}}}
theorem zDU:∀ {l E:List Nat},l.Nodup->(∀ x,x∈l->x∈E)->l.length<=E.length
 |[],E,_,_=>wH _| x::l,E,hn,h=>by obtain⟨h1,h2⟩:=tF.1 hn;have hx:=h x xD;have:=zDU (l:=l) (E:=E.erase x) h2 fun y hy=>(List.mem_erase_of_ne (fun e:y=x=>h1 (by rw[<-e];exact hy))).2 (h y (xI _ hy));rw[zNC hx] at this;have:=List.length_pos_of_mem hx;rw[x7];omega
structure DoneE (n:Nat) (done:List Bool) (E:List Nat):Prop where
 len:done.length=n
 nd:E.Nodup
 iff:∀ v,v<n->(done.getD v false=true↔v∈E)
 lt:∀ v,v∈E->v<n
theorem DoneE.open {n:Nat}{done:List Bool}{E:List Nat}(h:DoneE n done E)(hE:E.length<n):∃ v,v∈List.range n/\done.getD v false=false:=by
 refine aV fun hno=>?_;have h1:∀ v,v<n->v∈E:=fun v hv=>(h.iff v hv).1 (by
  cases hd:done.getD v false with
  |true=>rfl| false=>exact absurd ⟨v,wZ.2 hv,hd⟩ hno)
 have:=zDU (l:=List.range n) (E:=E) iJ fun v hv=>h1 v (wZ.1 hv);rw[dC] at this;omega
theorem zGH {N W n:Nat}{r:Nat->Nat->Rat}:∀ {f:Nat} {done:List Bool} {l m:List FR} {E:List Nat},FLs N r W E l->DoneE n done E->E.length+f=n->oC n f done l=some m->∃ E',FLs N r W E' m/\(∀ v,v<n->v∈E')/\∀ v,v∈E'->v<n
 |0,done,l,m,E,h,hd,hl,he=>by rw[oC] at he;obtain rfl:=vC he;refine⟨E,h,fun v hv=>?_,hd.lt⟩;refine aV fun hno=>?_;have:=zDU (l:=E) (E:=(List.range n).erase v) hd.nd fun w hw=>(List.mem_erase_of_ne (fun e:w=v=>hno (by rw[<-e];exact hw))).2 (wZ.2 (hd.lt w hw));rw[zNC (wZ.2 hv),dC] at this;omega
 |f+1,done,l,m,E,h,hd,hl,he=>by
  rw[oC] at he;obtain⟨b1,b2⟩:=cP (l:=l) (done:=done) (vs:=List.range n) (b:=-1);have b3:=b2 (by decide) (hd.open oM);obtain⟨v,hv,hdv,hb⟩:∃ v,v∈List.range n/\done.getD v false=false/\kQ l done (List.range n) (-1)=(v:Int):=by rcases b1 with b1|b1;{omega};{exact b1}
  (rw[hb,xN] at he;have hvn:=wZ.1 hv;have hvE:v∉E:=fun hm=>by rw[(hd.iff v hvn).2 hm] at hdv;cases hdv);split at he
  {cases he}
  ·cases hs:elS l v (n-f) with
   |none=>rw[hs] at he;cases he
   |some l' =>
    rw[hs] at he;refine zGH (E:=v::E) (h.step oM hs) ⟨by rw[kD];exact hd.len,tF.2 ⟨hvE,hd.nd⟩,fun w hw=>?_,fun w hw=>?_⟩ (by rw[x7];omega) he;{rw[yC,kV];by_cases e:v=w;{subst e;rw[if_pos rfl,if_pos (by rw[hd.len];exact hw)];simp};{rw[if_neg e,<-yC,hd.iff w hw];constructor;{exact fun h=>xI _ h};{intro h;rcases z9.1 h with h|h;{exact absurd h.symm e};{exact h}}}};{rcases z9.1 hw with rfl|hw;{exact hvn};{exact hd.lt w hw}}
def pC (n:Nat) (l:List FR) (t:Rat):Prop:=∀ p,p∈l->0<=((p.at' n:Int):Rat)*t+((p.at' (n+1):Int):Rat)
def eX (lo hi:Option Rat) (t:Rat):Prop:=(∀ a,lo=some a->a<=t)/\∀ b,hi=some b->t<=b
theorem m8 {n:Nat}{p:FR}{l:List FR}{t:Rat}:pC n (p::l) t↔0<=((p.at' n:Int):Rat)*t+((p.at' (n+1):Int):Rat)/\pC n l t :=
 ⟨fun h=>⟨h p xD,fun q hq=>h q (xI _ hq)⟩,fun⟨h1,h2⟩ q hq=>by
  rcases z9.1 hq with rfl|hq;{exact h1}
  ·exact h2 q hq⟩
theorem zHV {a b:Int}:pR a b=(a:Rat)*((b:Int):Rat)⁻¹:=by unfold pR;rw[<-fF,Rat.divInt_eq_div]
theorem yAN {a c:Int}{t:Rat}(ha:0<a):0<=(a:Rat)*t+(c:Rat)↔pR (-c) a<=t:=by
 rw[zHV,Rat.intCast_neg];have h1:(0:Rat)<(a:Rat):=by exact_mod_cast ha
 have h2:=zIU (a:Rat) (by grind);have h3:=iL.2 h1;generalize ((a:Int):Rat)⁻¹=w at *
 generalize ((a:Int):Rat)=a at *
 generalize ((c:Int):Rat)=c at *
 constructor
 ·(intro h;have:=kR h (dD h3);have e:(a*t+c)*w=(a*w)*t+c*w:=by grind);rw[e,h2] at this
  grind
 ·(intro h;have:=kR (show 0<=t - -c*w by grind) (dD h1);have e:(t - -c*w)*a=a*t+c*(a*w):=by grind);rw[e,h2] at this
  grind
theorem yAO {a c:Int}{t:Rat}(ha:a<0):0<=(a:Rat)*t+(c:Rat)↔t<=pR (-c) a:=by
 rw[zHV,Rat.intCast_neg];have h1:(a:Rat)<0:=by exact_mod_cast ha
 have h2:=zIU (a:Rat) (by grind);have h3:(a:Rat)⁻¹<0:=by by_cases h:(a:Rat)⁻¹<0;{exact h};{have:=kR (show 0<=-(a:Rat) by grind) (show 0<=(a:Rat)⁻¹ by grind);grind}
 generalize ((a:Int):Rat)⁻¹=w at *
 generalize ((a:Int):Rat)=a at *
 generalize ((c:Int):Rat)=c at *
 constructor
 ·(intro h;have:=kR h (show 0<=-w by grind);have e:(a*t+c) * -w=-((a*w)*t)+-(c*w):=by grind);rw[e,h2] at this
  grind
 ·(intro h;have:=kR (show 0<=-c*w-t by grind) (show 0<=-a by grind);have e:(-c*w-t) * -a=c*(a*w)+a*t:=by grind);rw[e,h2] at this
  grind
theorem zCH {n:Nat}:∀ {l:List FR} {lo hi:Option Rat},((∀ t,¬(eX lo hi t/\pC n l t))->kO n l lo hi=(2,0)) /\ (∀ z,eX lo hi z/\pC n l z->(∀ t,eX lo hi t/\pC n l t->z<=t)->kO n l lo hi=(1,z))/\((∀ m,∃ t,t<m/\eX lo hi t/\pC n l t)->kO n l lo hi=(3,0))
 |[],lo,hi=>by
  have hs:∀ t,pC n [] t:=fun t p hp=>absurd hp (by simp);cases lo with
  |none =>
   refine⟨fun h=>?_,fun z hz h=>?_,fun h=>rfl⟩
   ·exfalso;cases hi with
    |none=>exact h 0 ⟨⟨fun a h=>(by cases h),fun b h=>(by cases h)⟩,hs 0⟩| some b=>exact h b ⟨⟨fun a h=>(by cases h),fun c h=>by cases h;exact qV⟩,hs b⟩
   {exfalso;have:=h (z-1) ⟨⟨fun a h=>(by cases h),fun b hb=>by have:=hz.1.2 b hb;grind⟩,hs _⟩;grind}
  |some a =>
   cases hi with
   |none =>
    refine⟨fun h=>?_,fun z hz h=>?_,fun h=>?_⟩;{exact absurd ⟨⟨fun c hc=>by cases hc;exact qV,fun b h=>(by cases h)⟩,hs a⟩ (h a)};{have h1:=hz.1.1 a rfl;have h2:=h a ⟨⟨fun c hc=>by cases hc;exact qV,fun b h=>(by cases h)⟩,hs a⟩;show (1,a)=(1,z);rw[Rat.le_antisymm h1 h2]};{obtain⟨t,h1,h2,_⟩:=h a;have:=h2.1 a rfl;exact absurd h1 (by grind)}
   |some b =>
    refine⟨fun h=>?_,fun z hz h=>?_,fun h=>?_⟩;{show (if b<a then (2,(0:Rat)) else (1,a))=(2,0);by_cases hba:b<a;{rw[if_pos hba]};{exact absurd ⟨⟨fun c hc=>by cases hc;exact qV,fun c hc=>by cases hc;grind⟩,hs a⟩ (h a)}};{have h1:=hz.1.1 a rfl;have h3:=hz.1.2 b rfl;have h2:=h a ⟨⟨fun c hc=>by cases hc;exact qV,fun c hc=>by cases hc;grind⟩,hs a⟩;show (if b<a then (2,(0:Rat)) else (1,a))=(1,z);rw[if_neg (by grind),Rat.le_antisymm h1 h2]};{obtain⟨t,h1,h2,_⟩:=h a;have:=h2.1 a rfl;exact absurd h1 (by grind)}
 |p::r,lo,hi=>by
  rw[kO]
  
  have key:∀ lo' hi',(∀ t,eX lo hi t/\pC n (p::r) t↔eX lo' hi' t/\pC n r t)->∀ R,R=kO n r lo' hi' ->
    ((∀ t,¬(eX lo hi t/\pC n (p::r) t))->R=(2,0))/\(∀ z,eX lo hi z/\pC n (p::r) z->(∀ t,eX lo hi t/\pC n (p::r) t->z<=t)->R=(1,z))/\((∀ m,∃ t,t<m/\eX lo hi t/\pC n (p::r) t)->R=(3,0)):=fun lo' hi' he R hR=>by
   obtain⟨h1,h2,h3⟩:=zCH (n:=n) (l:=r) (lo:=lo') (hi:=hi');refine⟨fun h=>?_,fun z hz h=>?_,fun h=>?_⟩;{rw[hR];exact h1 fun t ht=>h t ((he t).2 ht)};{rw[hR];exact h2 z ((he z).1 hz) fun t ht=>h t ((he t).2 ht)};{rw[hR];exact h3 fun m=>by obtain⟨t,a,b⟩:=h m;exact⟨t,a,(he t).1 b⟩}
  by_cases h0:p.at' n=0
  ·rw[if_pos h0];by_cases hc:p.at' (n+1)<0
   ·rw[if_pos hc];have hno:∀ t,¬(eX lo hi t/\pC n (p::r) t):=fun t ht=>by
     (have:=(m8.1 ht.2).1;rw[h0] at this;have h1:((p.at' (n+1):Int):Rat)<0:=by exact_mod_cast hc);have h2:(((0:Int)):Rat)=0:=rfl
     rw[h2] at this;exact absurd this (by grind)
    refine⟨fun _=>rfl,fun z hz _=>absurd hz (hno z),fun h=>?_⟩;obtain⟨t,_,ht⟩:=h 0;exact absurd ht (hno t)
   ·rw[if_neg hc];refine key lo hi (fun t=>?_) _ rfl;rw[m8,h0];have h1:(0:Rat)<=((p.at' (n+1):Int):Rat):=by
     have:0<=p.at' (n+1):=by omega
     exact_mod_cast this
    have h2:(((0:Int)):Rat)=0:=rfl;rw[h2];exact⟨fun h=>⟨h.1,h.2.2⟩,fun h=>⟨h.1,by grind,h.2⟩⟩
  ·rw[if_neg h0];by_cases hp:0<p.at' n
   ·rw[if_pos hp];refine key _ hi (fun t=>?_) _ rfl;rw[m8,yAN hp];show _↔eX (some (zMH (pR (-(p.at' (n+1))) (p.at' n)) lo)) hi t/\pC n r t;generalize pR (-(p.at' (n+1))) (p.at' n)=v;cases lo with
    |none=>exact⟨fun h=>⟨⟨fun a ha=>by cases ha;exact h.2.1,h.1.2⟩,h.2.2⟩,fun h=>⟨⟨fun a ha=>(by cases ha),h.1.2⟩,h.1.1 _ rfl,h.2⟩⟩| some a =>
     refine⟨fun h=>⟨⟨fun b hb=>?_,h.1.2⟩,h.2.2⟩,fun h=>?_⟩;{cases hb;have:=h.1.1 a rfl;unfold zMH;dsimp only;split;{exact h.2.1};{exact this}};{have h1:=h.1.1 _ rfl;unfold zMH at h1;dsimp only at h1;refine⟨⟨fun b hb=>?_,h.1.2⟩,?_,h.2⟩;{cases hb;split at h1 <;> grind};{split at h1 <;> grind}}
   ·rw[if_neg hp];refine key lo _ (fun t=>?_) _ rfl;rw[m8,yAO oM];show _↔eX lo (some (zMJ (pR (-(p.at' (n+1))) (p.at' n)) hi)) t/\pC n r t;generalize pR (-(p.at' (n+1))) (p.at' n)=v;cases hi with
    |none=>exact⟨fun h=>⟨⟨h.1.1,fun a ha=>by cases ha;exact h.2.1⟩,h.2.2⟩,fun h=>⟨⟨h.1.1,fun a ha=>(by cases ha)⟩,h.1.2 _ rfl,h.2⟩⟩| some a =>
     refine⟨fun h=>⟨⟨h.1.1,fun b hb=>?_⟩,h.2.2⟩,fun h=>?_⟩;{cases hb;have:=h.1.2 a rfl;unfold zMJ;dsimp only;split;{exact h.2.1};{exact this}};{have h1:=h.1.2 _ rfl;unfold zMJ at h1;dsimp only at h1;refine⟨⟨h.1.1,fun b hb=>?_⟩,?_,h.2⟩;{cases hb;split at h1 <;> grind};{split at h1 <;> grind}}
section
variable {n N:Nat} {r:Nat->Nat->Rat} {k:Nat->Rat} {fs:List F} {l:List FR}
theorem zYY (h:Ini (n+1) fs r k)(hw:∀ f,f∈fs->f.wf ((n+1:Nat):Int)){X:Int->Rat}{i:Nat}{f:F}(hi:fs[i]?=some f):smL (List.range (n+1)) (fun u=>r i u*X (u:Int))+r i (n+1)=k i*f.at X:=by
 rw[zZI (hw f (zZ hi)),h.eq i f hi];have e:smL (List.range (n+1)) (fun u=>r i u*X (u:Int))=k i*smL (List.range (n+1)) (fun u=>(cfs f (n+1)).getD u 0*X (u:Int)):=by rw[<-kH];exact xL fun u _=>by rw[h.eq i f hi];grind
 rw[e];grind
theorem zX5 (h:Ini (n+1) fs r k)(hw:∀ f,f∈fs->f.wf ((n+1:Nat):Int)){E:List Nat}(hE:∀ v,v<n->v∈E)(hl:FLs fs.length r (n+2) E l){X:Int->Rat}(hX:Pts fs X):pC n l (X (n:Int)):=fun p hp=>by
 obtain⟨y,hy⟩:=hl.ok p hp;have h1:smL (List.range (n+1)) (fun u=>((p.at' u:Int):Rat)*X (u:Int))=((p.at' n:Int):Rat)*X (n:Int):=by
  (refine zG6 (j:=n) (f:=fun u=>((p.at' u:Int):Rat)*X (u:Int)) iJ (wZ.2 oM) fun u hu hne=>?_;have hu':u<n:=by have:=wZ.1 hu;omega);have:((p.at' u:Int):Rat)=0:=by rw[hy.col u];exact hy.can.col (fun i=>r i u) (yS.2 ⟨u,hE u hu',rfl⟩)
  rw[this];grind
 have h2:smL (List.range (n+1)) (fun u=>((p.at' u:Int):Rat)*X (u:Int))+((p.at' (n+1):Int):Rat)=smL (List.range fs.length) (fun i=>y i*(smL (List.range (n+1)) (fun u=>r i u*X (u:Int))+r i (n+1))):=by
  (have e1:smL (List.range (n+1)) (fun u=>((p.at' u:Int):Rat)*X (u:Int))=smL (List.range (n+1)) (fun u=>smL (List.range fs.length) (fun i=>y i*r i u*X (u:Int))):=xL fun u _=>by rw[hy.col u,Rat.mul_comm,<-kH];exact xL fun i _=>by grind);rw[e1,<-zI9,hy.col (n+1),<-fS];refine xL fun i _=>?_;have:smL (List.range (n+1)) (fun u=>y i*r i u*X (u:Int))=y i*smL (List.range (n+1)) (fun u=>r i u*X (u:Int)):=by rw[<-kH];exact xL fun u _=>by grind
  rw[this];grind
 rw[<-h1,h2];have key:∀ S:List Nat,(∀ i,i∈S->i<fs.length)->0<=smL S (fun i=>y i*(smL (List.range (n+1)) (fun u=>r i u*X (u:Int))+r i (n+1))):=fun S=>by
  induction S with
  |nil=>exact fun _=>qV| cons i S ih =>
   intro hS;obtain⟨f,hf⟩:=zO (hS i xD);have h3:=ih fun j hj=>hS j (xI _ hj);have h4:=kR (hy.can.nn i) (kR (dD (h.pos i)) (hX f (zZ hf)));rw[<-zYY h hw hf] at h4;rw[smL];grind
 exact key _ fun i hi=>wZ.1 hi
theorem zOG (h:Ini (n+1) fs r k){Y:Nat->Rat}(u:Nat):smL (List.range fs.length) (fun i=>(k i)⁻¹*Y i*r i u)=smL (List.range fs.length) (fun i=>Y i*(cfs (fs.getD i F.zero) (n+1)).getD u 0):=xL fun i hi=>by
 obtain⟨f,hf⟩:=zO (wZ.1 hi);rw[h.eq i f hf,yC (l:=fs),hf];have:=zBQ (k i) (by have:=h.pos i;intro e;rw[e] at this;exact absurd this (by decide));show (k i)⁻¹*Y i*(k i*(cfs f (n+1)).getD u 0)=Y i*(cfs f (n+1)).getD u 0;have e:(k i)⁻¹*Y i*(k i*(cfs f (n+1)).getD u 0)=((k i)⁻¹*k i)*(Y i*(cfs f (n+1)).getD u 0):=by grind
 rw[e,this];grind
theorem zV9 (h:Ini (n+1) fs r k){E:List Nat}(hE':∀ v,v∈E->v<n)(hl:FLs fs.length r (n+2) E l){Y:Nat->Rat}(hY:∀ i,i<fs.length->0<=Y i)(hc:∀ u,u<n->smL (List.range fs.length) (fun i=>Y i*(cfs (fs.getD i F.zero) (n+1)).getD u 0)=0):Cone (fun y=>∃ p,p∈l/\FOk fs.length r (n+2) E p y) (fun i=>if i<fs.length then (k i)⁻¹*Y i else 0):=by
 refine hl.gen _ ⟨fun i=>?_,fun i hi=>if_neg fun e=>hi (wZ.2 e),fun f hf=>?_⟩
 ·(show (0:Rat)<=if i<fs.length then (k i)⁻¹*Y i else 0);split
  {rename_i hi;exact kR (dD (iL.2 (h.pos i))) (hY i hi)};{exact qV}
 ·(obtain⟨v,hv,rfl⟩:=yS.1 hf;have:smL (List.range fs.length) (fun i=>(if i<fs.length then (k i)⁻¹*Y i else 0)*r i v)=smL (List.range fs.length) (fun i=>(k i)⁻¹*Y i*r i v):=xL fun i hi=>by rw[if_pos (wZ.1 hi)]);rw[this,zOG h,hc v (hE' v hv)]
theorem zOY (h:Ini (n+1) fs r k){Y:Nat->Rat}(u:Nat):smL (List.range fs.length) (fun i=>(if i<fs.length then (k i)⁻¹*Y i else 0)*r i u)=smL (List.range fs.length) (fun i=>Y i*(cfs (fs.getD i F.zero) (n+1)).getD u 0):=by
 have:smL (List.range fs.length) (fun i=>(if i<fs.length then (k i)⁻¹*Y i else 0)*r i u)=smL (List.range fs.length) (fun i=>(k i)⁻¹*Y i*r i u):=xL fun i hi=>by rw[if_pos (wZ.1 hi)]
 rw[this,zOG h]
theorem zTF (h:Ini (n+1) fs r k){E:List Nat}(hE':∀ v,v∈E->v<n)(hl:FLs fs.length r (n+2) E l){Y:Nat->Rat}(hY:∀ i,i<fs.length->0<=Y i)(hc:∀ u,u<n->smL (List.range fs.length) (fun i=>Y i*(cfs (fs.getD i F.zero) (n+1)).getD u 0)=0) {t b:Rat} (hb:smL (List.range fs.length) (fun i=>Y i*(cfs (fs.getD i F.zero) (n+1)).getD n 0)*t+smL (List.range fs.length) (fun i=>Y i*(cfs (fs.getD i F.zero) (n+1)).getD (n+1) 0)=b) (ht:pC n l t):0<=b:=by
 have hC:=zV9 h hE' hl hY hc;have h1:=hC.lin (M:=List.range fs.length) (f:=fun i=>r i n*t+r i (n+1)) fun w ⟨p,hp,hy⟩=>by
  (have:=ht p hp;rw[hy.col n,hy.col (n+1)] at this;have e:smL (List.range fs.length) (fun i=>w i*(r i n*t+r i (n+1)))=smL (List.range fs.length) (fun i=>w i*r i n)*t+smL (List.range fs.length) (fun i=>w i*r i (n+1)):=by rw[Rat.mul_comm _ t,<-kH,<-fS];exact xL fun i _=>by grind);rw[e];exact this
 rw[<-hb,<-zOY h,<-zOY h];have e:∀ w:Nat->Rat,smL (List.range fs.length) (fun i=>w i*(r i n*t+r i (n+1)))=smL (List.range fs.length) (fun i=>w i*r i n)*t+smL (List.range fs.length) (fun i=>w i*r i (n+1)):=fun w=>by rw[Rat.mul_comm _ t,<-kH,<-fS];exact xL fun i _=>by grind
 rw[<-e];exact h1
end
theorem zM9 (u:Int):∀ {fs:List F} {ds:List Rat} {acc:F},ds.length=fs.length->co (vB fs ds acc).ts u=co acc.ts u+smL (List.range fs.length) (fun j=>ds.getD j 0*co (fs.getD j F.zero).ts u)/\(vB fs ds acc).c=acc.c+smL (List.range fs.length) (fun j=>ds.getD j 0*(fs.getD j F.zero).c)
 |[],[],acc,_=>by unfold vB;refine⟨?_,?_⟩;{show co acc.ts u=co acc.ts u+0;grind};{show acc.c=acc.c+0;grind}| [],d::ds,acc,h=>by simp at h| f::fs,[],acc,h=>by simp at h| f::fs,d::ds,acc,h=>by
  (obtain⟨h1,h2⟩:=zM9 u (fs:=fs) (ds:=ds) (acc:=acc.add (f.scale d)) (by simpa using h);have hc:(acc.add (f.scale d)).c=acc.c+d*f.c:=by show acc.c+(0+f.c*d)*1=_;grind);unfold vB;rw[h1,h2,zZE,zSG,hc,x7,zIS];show _=co acc.ts u+((d::ds).getD 0 0*co ((f::fs).getD 0 F.zero).ts u+smL ((List.range fs.length).map Nat.succ) _)/\_=acc.c+((d::ds).getD 0 0*((f::fs).getD 0 F.zero).c+smL ((List.range fs.length).map Nat.succ) _);rw[i4,i4];refine⟨?_,?_⟩;{show _=co acc.ts u+(d*co f.ts u+smL (List.range fs.length) (fun i=>ds.getD i 0*co (fs.getD i F.zero).ts u));grind};{show _=acc.c+(d*f.c+smL (List.range fs.length) (fun i=>ds.getD i 0*(fs.getD i F.zero).c));grind}
def mulY (a:Rat) (du:List Rat):Nat->Rat
 |0=>a| 1=>0| j+2=>du.getD j 0
theorem rM {n:Nat}{fs:List F}{ob:F}{a:Rat}{du:List Rat}(hd:du.length=fs.length)(u:Nat):smL (List.range (iI n fs ob).length) (fun i=>mulY a du i*(cfs ((iI n fs ob).getD i F.zero) (n+1)).getD u 0) =a*(cfs ((F.var n).sub ob) (n+1)).getD u 0+(cfs (vB fs du F.zero) (n+1)).getD u 0:=by
 have hl:(iI n fs ob).length=fs.length+1+1:=rfl;rw[hl,zIS,zIS,smL,uC,smL,i4,i4];have key:(cfs (vB fs du F.zero) (n+1)).getD u 0=smL (List.range fs.length) (fun j=>du.getD j 0*(cfs (fs.getD j F.zero) (n+1)).getD u 0):=by
  by_cases hu:u<n+1
  ·(rw[cY hu,(zM9 (u:Int) hd).1];have:co F.zero.ts (u:Int)=0:=rfl;rw[this];have e:smL (List.range fs.length) (fun j=>du.getD j 0*(cfs (fs.getD j F.zero) (n+1)).getD u 0)=smL (List.range fs.length) (fun j=>du.getD j 0*co (fs.getD j F.zero).ts (u:Int)):=xL fun j _=>by rw[cY hu]);rw[e];grind
  ·by_cases hu2:u=n+1
   ·(subst hu2;rw[cN,(zM9 0 hd).2];have e:smL (List.range fs.length) (fun j=>du.getD j 0*(cfs (fs.getD j F.zero) (n+1)).getD (n+1) 0)=smL (List.range fs.length) (fun j=>du.getD j 0*(fs.getD j F.zero).c):=xL fun j _=>by rw[cN]);rw[e]
    show 0+_=_;grind
   ·(have hz:∀ f:F,(cfs f (n+1)).getD u 0=0:=fun f=>by rw[yC,jT (by rw[zHY];omega)];rfl);rw[hz,bX fun j _=>by rw[hz];grind]
 rw[key];show a*(cfs ((F.var n).sub ob) (n+1)).getD u 0+(0*_+smL (List.range fs.length) (fun j=>du.getD j 0*(cfs (fs.getD j F.zero) (n+1)).getD u 0))=_;grind
theorem zVL {n:Nat}{fs:List F}{ob:F}{X:Int->Rat}:Pts (iI n fs ob) X↔X n=ob.at X/\Pts fs X:=by constructor;{intro h;have h1:=h _ xD;have h2:=h _ (xI _ xD);rw[zEF] at h2;rw[zIP,zNB] at h1 h2;exact⟨by grind,fun f hf=>h f (xI _ (xI _ hf))⟩};{intro⟨h1,h2⟩ f hf;rcases z9.1 hf with rfl|hf;{rw[zIP,zNB,h1];grind};{rcases z9.1 hf with rfl|hf;{rw[zEF,zIP,zNB,h1];grind};{exact h2 f hf}}}
theorem zTX {n:Nat}{f:F}{X:Int->Rat}{t:Rat}(h:f.wf (n:Int)):f.at (fun i=>if i=(n:Int) then t else X i)=f.at X:=zEH fun u hu=>if_neg (by have:=(h.v u hu).2;omega)
theorem zRY {n:Nat}{fs:List F}{ob:F}{s:SolR}(hw:∀ f,f∈fs->f.wf (n:Int))(ho:ob.wf (n:Int))(h:SolOk n (fs.map (lnS n)) (lnS n ob) s)(he:(sR n fs ob).1≠0):(sR n fs ob)=(s.st,s.val):=by
 have hsem:=h.sem hw ho;unfold sR at he ⊢;split at he;{exact absurd rfl he}
 ·rename_i h62;rw[if_neg h62];split at he;{exact absurd rfl he}
  ·rename_i l hl;split at he;{exact absurd rfl he}
   ·rename_i m hm;obtain⟨r,k,hI,hF⟩:=zYX hl;obtain⟨E,hE,hEa,hEb⟩:=zGH (n:=n) hF ⟨by simp,.nil,fun v hv=>by simp[yC,gC,hv],fun v hv=>absurd hv (by simp)⟩ (by simp) hm;have hwa:∀ f,f∈iI n fs ob->f.wf ((n+1:Nat):Int):=fun f hf=>by have ht:((F.var n).sub ob).wf ((n+1:Nat):Int):=(F.wf.var oM oM).sub (ho.mono oM);rcases z9.1 hf with rfl|hf;{exact ht};{rcases z9.1 hf with rfl|hf;{exact ht.scale};{exact (hw f hf).mono oM}}
    
    (have pt:∀ X,Pts fs X->pC n m (ob.at X):=fun X hX=>by have:=zX5 hI hwa hEa hE (X:=fun i=>if i=(n:Int) then ob.at X else X i) (zVL.2 ⟨by rw[zTX ho,if_pos rfl],fun f hf=>by rw[zTX (hw f hf)];exact hX f hf⟩);rwa [if_pos rfl] at this);have hin:∀ t,eX none none t:=fun t=>⟨fun a h=>(by cases h),fun a h=>(by cases h)⟩;obtain⟨s1,s2,s3⟩:=zCH (n:=n) (l:=m) (lo:=none) (hi:=none);rcases hsem.one with e|e|e
    ·(obtain⟨⟨X,hX,hv⟩,hmin⟩:=hsem.opt e;rw[e];refine s2 s.val ⟨hin _,hv ▸ pt X hX⟩ fun t ht=>?_;obtain⟨_,_,_,h4,h5,_,_⟩:=h.opt e;rw[y8] at h4;obtain⟨g1,g2⟩:=h.sub hw ho e;have hcm:=zE7 (ds:=s.du) (acc:=F.zero) hw F.wf.zero;have co1:∀ u:Int,co ob.ts u=co (vB fs s.du F.zero).ts u:=fun u=>by have:=zM7 ob (vB fs s.du F.zero) u;rw[g1] at this;have h0:co [] u=0:=rfl;rw[h0] at this;grind);have cc:ob.c-(vB fs s.du F.zero).c=s.val:=by rw[<-g2];show _=ob.c+(vB fs s.du F.zero).c * -1;grind
     have hn:=zTF hI hEb hE (Y:=mulY 1 s.du) (t:=t) (b:=t-s.val) (fun i _=>?_) (fun u hu=>?_) ?_ ht.2;{grind}
     ·match i with
      |0=>exact (by decide:(0:Rat)<=1)| 1=>exact qV| j+2 =>
       show 0<=s.du.getD j 0;by_cases hj:j<s.du.length;{exact h5 _ (xG hj)};{rw[yC,jT oM];exact qV}
     {rw[rM h4,cY oM,cY oM,zM7,co1,zTU];have:dlt (n:Int) (u:Int)=0:=if_neg oM;rw[this];grind}
     ·(rw[rM h4,rM h4,cY oM,cY oM,cN,cN,zM7,co1,zTU];have:dlt (n:Int) (n:Int)=1:=if_pos rfl;rw[this];have hc:((F.var n).sub ob).c=-ob.c:=by show (0:Rat)+ob.c * -1=_;grind);rw[hc];grind
    ·obtain⟨hz,hno⟩:=hsem.inf e;rw[e,hz];refine s1 fun t ht=>?_;obtain⟨_,_,_,h4,h5,_⟩:=h.inf e;rw[y8] at h4;obtain⟨g1,g2⟩:=h.neg hw e;have hn:=zTF hI hEb hE (Y:=mulY 0 s.du) (t:=t) (b:=(vB fs s.du F.zero).c) (fun i _=>?_) (fun u hu=>?_) ?_ ht.2;{grind}
     ·match i with
      |0=>exact qV| 1=>exact qV| j+2 =>
       show 0<=s.du.getD j 0;by_cases hj:j<s.du.length;{exact h5 _ (xG hj)};{rw[yC,jT oM];exact qV}
     {rw[rM h4,cY oM,cY oM,g1];show 0*_+(0:Rat)=0;grind};{rw[rM h4,rM h4,cY oM,cY oM,cN,cN,g1];show (0*_+(0:Rat))*t+(0*_+_)=_;grind}
    {obtain⟨hz,hu⟩:=hsem.unb e;rw[e,hz];refine s3 fun b=>?_;obtain⟨X,hX,hlt⟩:=hu b;exact⟨_,hlt,hin _,pt X hX⟩}
theorem l8 {c0 c1 c:Int}(h0:c0.natAbs<=8)(h1:c1.natAbs<=8)(h2:c.natAbs<=8):(frm c0 c1 c).fl 5 2:=by have ht:=zGD h0 h1;refine⟨fun t h=>?_,(pA h2).mono (by decide),sD _ _⟩;exact zHO (m:=1) (g:=[((0:Int),(c0:Rat)),(1,(c1:Rat))]) (l:=[]) (fun t h=>(ht t h).2) (fun t h=>absurd h (by simp)) t h
theorem zK0 {f:F}{n:Int}(h:(fA f).valid n=true):f.wf n:=by
 have:=(dO h).2;have e:(fA f).f=f:=by obtain⟨ts,c⟩:=f;show (⟨tq (tR ts),(zJ c).q⟩:F)=⟨ts,c⟩;rw[zMB,yY]
 rwa [e] at this
theorem zY5:frm 1 2 (-4)=⟨[(0,1),(1,2)],-4⟩/\frm 1 0 0=⟨[(0,1)],0⟩/\frm 0 1 0=⟨[(1,1)],0⟩/\frm 1 1 0=⟨[(0,1),(1,1)],0⟩/\frm (-1) (-1) 1=⟨[(0,-1),(1,-1)],1⟩/\frm (-1) 0 0=⟨[(0,-1)],0⟩:=by refine⟨?_,?_,?_,?_,?_,?_⟩ <;> (unfold frm;congr 1)
theorem at2 {X:Int->Rat}{a b:Int}{p q c:Rat}:(⟨[(a,p),(b,q)],c⟩:F).at X=c+(p*X a+(q*X b+0)):=rfl
theorem at1 {X:Int->Rat}{a:Int}{p c:Rat}:(⟨[(a,p)],c⟩:F).at X=c+(p*X a+0):=rfl
theorem zUG (X:Int->Rat):(frm 1 2 (-4)).at X=X 0+2*X 1-4/\(frm 1 0 0).at X=X 0/\(frm 0 1 0).at X=X 1/\(frm 1 1 0).at X=X 0+X 1/\(frm (-1) (-1) 1).at X=1-X 0-X 1/\(frm (-1) 0 0).at X=- X 0:=by obtain⟨h1,h2,h3,h4,h5,h6⟩:=zY5;rw[h1,h2,h3,h4,h5,h6,at2,at1,at1,at2,at2,at1];refine⟨?_,?_,?_,?_,?_,?_⟩ <;> grind
theorem SolFit.mono {K L:Nat}{s:SolR}(h:SolFit K s)(hm:K<=L):SolFit L s:=⟨h.val.mono hm,h.pt.mono hm,h.du.mono hm,h.ry.mono oM⟩
end Go.Proofs.YtfainocfaddbdaaGreat
