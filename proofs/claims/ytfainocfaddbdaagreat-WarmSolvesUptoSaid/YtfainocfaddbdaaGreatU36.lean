/- A part of the proof: SzE, SxQ, SxR, SxS. -/
import Derived.Test.YtfainocfaddbdaaGreatU35
import Derived.Test.YtfainocfaddbdaaGreatU19
import Derived.Test.YtfainocfaddbdaaGreatU34
set_option linter.all false
namespace Go.Proofs.YtfainocfaddbdaaGreat
open Go
set_option maxRecDepth 100000
theorem zST {vars:Int}:∀ {ts:List (Int×R)} {p:Int},vT vars p ts=true->∀ t,t∈tq ts->0<=t.1/\t.1<vars
 |[],_,_,t,h=>absurd h (by simp[tq])| u::r,p,h,t,ht=>by rw[zCO] at h;simp only[y9,decide_eq_true_eq] at h;obtain⟨⟨⟨⟨⟨h1,h2⟩,h3⟩,h4⟩,h5⟩,h6⟩:=h;rcases z9.1 ht with rfl|ht;{exact⟨h1,h2⟩};{exact zST h6 t ht}
theorem dO {a:A}{n:Int}(h:a.valid n=true):fA a.f=a/\a.f.wf n:=by have h1:=zH3 h;unfold A.valid at h;simp only[y9] at h;exact⟨h1.1,h1.2,zST h.1⟩
theorem zDG {a:A}(h:a.small=true):a.f.fl 2 8:=by unfold A.small R.small at h;simp only[y9,decide_eq_true_eq,f8] at h;obtain⟨⟨⟨h1,⟨h2,h3⟩⟩,h4⟩,h5⟩:=h;refine⟨fun t ht=>?_,R.sz.fits ⟨h2.1,h2.2⟩ (by decide),?_⟩;{obtain⟨u,hu,rfl⟩:=yS.1 (show t∈a.ts.map fun t=>(t.1,t.2.q) from ht);have:=h5 u hu;exact R.sz.fits ⟨this.1.1,this.1.2⟩ (by decide)};{show (tq a.ts).length<=8;rw[show (tq a.ts).length=a.ts.length from y8 ..];exact h1}
structure PW (v:Nat) (fs:List F) (ob:F) (k n:Nat):Prop where
 lv:v<=4
 len:fs.length<=9
 rows:∀ f,f∈fs->f.fl k n/\f.wf (v:Int)
 obj:ob.fl k n/\ob.wf (v:Int)
 k1:1<=k
 k2:k<=500
 hn:n<2^20
theorem zPF {P:Prg}(h:P.small=true):∃ v fs ob,P=prg v fs ob/\fs.length<=8/\PW v fs ob 2 8:=by
 unfold Prg.small cS at h;simp only[y9,decide_eq_true_eq,f8] at h;obtain⟨⟨⟨h1,h2,h3⟩,h4⟩,h5⟩:=h;unfold Prg.valid at h5;simp only[y9,decide_eq_true_eq,f8] at h5;obtain⟨⟨h6,h7⟩,h8⟩:=h5;obtain⟨n,us,ob⟩:=P;dsimp only at *
 have hn:n=((n.toNat:Nat):Int):=by omega
 have hob:=dO h7;have e:us.map (fun a=>fA a.f)=us:=by
  refine mR fun i=>?_;rw[vU];cases hi:us[i]? with
  |none=>rfl| some a=>show some (fA a.f)=some a;rw[(dO (h8 a (zZ hi))).1]
 refine⟨n.toNat,us.map A.f,ob.f,?_,by rw[y8];omega,by omega,by rw[y8];omega,fun f hf=>?_,⟨zDG h4,hn ▸ hob.2⟩,by decide,by decide,by decide⟩;{show (⟨n,us,ob⟩:Prg)=⟨((n.toNat:Nat):Int),(us.map A.f).map fA,fA ob.f⟩;rw[<-hn,List.map_map,hob.1];congr 1;exact e.symm};{obtain⟨a,ha,rfl⟩:=yS.1 hf;exact⟨zDG (h3 a ha),hn ▸ (dO (h8 a ha)).2⟩}
def smL:List Nat->(Nat->Rat)->Rat
 |[],_=>0| i::S,f=>f i+smL S f
theorem xL {f g:Nat->Rat}:∀ {S:List Nat},(∀ i,i∈S->f i=g i)->smL S f=smL S g
 |[],_=>rfl| i::S,h=>by rw[smL,smL,h i List.mem_cons_self,xL fun j hj=>h j (List.mem_cons_of_mem _ hj)]
theorem fS {f g:Nat->Rat}:∀ {S:List Nat},smL S (fun i=>f i+g i)=smL S f+smL S g
 |[]=>by simp only[smL];grind| i::S=>by simp only[smL,fS (S:=S)];grind
theorem kH {a:Rat}{f:Nat->Rat}:∀ {S:List Nat},smL S (fun i=>a*f i)=a*smL S f
 |[]=>by simp only[smL];grind| i::S=>by simp only[smL,kH (S:=S)];grind
theorem bX {f:Nat->Rat}:∀ {S:List Nat},(∀ i,i∈S->f i=0)->smL S f=0
 |[],_=>rfl| i::S,h=>by rw[smL,h i List.mem_cons_self,bX fun j hj=>h j (List.mem_cons_of_mem _ hj)];grind
theorem oY {f:Nat->Rat}{j:Nat}:∀ {S:List Nat},j∈S->smL S f=f j+smL (S.erase j) f
 |i::S,h=>by by_cases e:i=j;{subst e;rw[List.erase_cons_head];rfl};{rw[List.erase_cons_tail (by simpa using e),smL,smL,oY (S:=S) (by rcases List.mem_cons.1 h with h|h;exact absurd h.symm e;exact h)];grind}
theorem lP {p:Nat->Bool}{f:Nat->Rat}:∀ {S:List Nat},smL (S.filter p) f=smL S (fun i=>if p i=true then f i else 0)
 |[]=>rfl| i::S=>by by_cases h:p i=true;{rw[List.filter_cons_of_pos h,smL,smL,if_pos h,lP]};{rw[List.filter_cons_of_neg h,smL,if_neg h,lP];grind}
theorem zHM:∀ (F:List (Nat->Rat)) (S:List Nat),S.Nodup->F.length<S.length->∃ d:Nat->Rat,(∃ j,j∈S/\d j≠0)/\(∀ j,j∉S->d j=0)/\∀ f,f∈F->smL S (fun j=>f j*d j)=0
 |[],S,_,h=>by
  cases S with
  |nil=>simp at h| cons j S=>exact⟨fun i=>if i=j then 1 else 0,⟨j,List.mem_cons_self,by simp⟩,fun i hi=>if_neg fun e=>hi (by rw[e];exact List.mem_cons_self),fun f hf=>absurd hf (by simp)⟩
 |f::F,S,hn,h=>by
  by_cases h0:∀ j,j∈S->f j=0;{obtain⟨d,h1,h2,h3⟩:=zHM F S hn (by simp only[List.length_cons] at h;omega);refine⟨d,h1,h2,fun g hg=>?_⟩;rcases List.mem_cons.1 hg with rfl|hg;{exact bX fun i hi=>by rw[h0 i hi];grind};{exact h3 g hg}}
  ·(obtain⟨j0,h0⟩:=Classical.not_forall.1 h0;obtain⟨hj,hf0⟩:=Classical.not_imp.1 h0;have hne:=hn.erase j0;have hnm:j0∉S.erase j0:=List.Nodup.not_mem_erase hn;obtain⟨d,⟨j1,h1,h1'⟩,h2,h3⟩:=zHM (F.map fun g=>fun i=>g i-g j0*(f j0)⁻¹*f i) (S.erase j0) hne (by rw[List.length_map,List.length_erase_of_mem hj];simp only[List.length_cons] at h;omega);have hin:∀ i,i∈S.erase j0->i≠j0:=fun i hi e=>hnm (e ▸ hi);have hcg:∀ g:Nat->Rat,∀ q:Rat,smL (S.erase j0) (fun i=>g i*(if i=j0 then q else d i))=smL (S.erase j0) (fun i=>g i*d i):=fun g q=>xL fun i hi=>by rw[if_neg (hin i hi)]);refine⟨fun i=>if i=j0 then -((f j0)⁻¹*smL (S.erase j0) (fun i=>f i*d i)) else d i,⟨j1,List.mem_of_mem_erase h1,by show (if j1=j0 then _ else d j1)≠0;rw[if_neg (hin j1 h1)];exact h1'⟩,fun i hi=>?_,fun g hg=>?_⟩
   {have:i≠j0:=fun e=>hi (e ▸ hj);show (if i=j0 then _ else d i)=0;rw[if_neg this];exact h2 i fun hm=>hi (List.mem_of_mem_erase hm)}
   ·rw[oY hj];show g j0*(if j0=j0 then _ else d j0)+smL (S.erase j0) (fun i=>g i*(if i=j0 then _ else d i))=0;rw[hcg,if_pos rfl];have hi0:f j0*(f j0)⁻¹=1:=Rat.mul_inv_cancel _ hf0;rcases List.mem_cons.1 hg with rfl|hg
    ·generalize smL (S.erase j0) (fun i=>g i*d i)=s;generalize (g j0)⁻¹=w at *
     grind
    ·(have h4:=h3 _ (List.mem_map_of_mem hg);have h5:smL (S.erase j0) (fun j=>(g j-g j0*(f j0)⁻¹*f j)*d j)=smL (S.erase j0) (fun j=>g j*d j)+-(g j0*(f j0)⁻¹)*smL (S.erase j0) (fun j=>f j*d j):=by rw[<-kH,<-fS];exact xL fun i _=>by grind);rw[h5] at h4;generalize smL (S.erase j0) (fun i=>f i*d i)=s at *
     generalize smL (S.erase j0) (fun i=>g i*d i)=t at *
     generalize (f j0)⁻¹=w at *
     grind
termination_by F=>F.length
decreasing_by all_goals simp only[List.length_cons,List.length_map];omega
inductive Cone (P:(Nat->Rat)->Prop):(Nat->Rat)->Prop where
 |zero:Cone P (fun _=>0)| add {a:Rat} {y z:Nat->Rat}:0<=a->P y->Cone P z->Cone P (fun i=>a*y i+z i)
section
variable {P Q:(Nat->Rat)->Prop} {y z:Nat->Rat}
theorem Cone.to (h:Cone P y)(e:∀ i,y i=z i):Cone P z:=by have:y=z:=funext e;exact this ▸ h
theorem Cone.one (h:P y):Cone P y:=(Cone.add (a:=1) (by decide) h .zero).to fun i=>by grind
theorem Cone.plus (h:Cone P y)(g:Cone P z):Cone P (fun i=>y i+z i):=by
 induction h with
 |zero=>exact g.to fun i=>by grind| add ha hp _ ih=>exact (Cone.add ha hp ih).to fun i=>by grind
theorem Cone.scale {b:Rat}(hb:0<=b)(h:Cone P y):Cone P (fun i=>b*y i):=by
 induction h with
 |zero=>exact Cone.zero.to fun i=>by grind| add ha hp _ ih=>exact (Cone.add (Rat.mul_nonneg hb ha) hp ih).to fun i=>by grind
theorem Cone.bind (h:Cone P y)(g:∀ w,P w->Cone Q w):Cone Q y:=by
 induction h with
 |zero=>exact .zero| add ha hp _ ih=>exact (((g _ hp).scale ha).plus ih)
theorem Cone.nn (h:Cone P y)(g:∀ w,P w->∀ i,0<=w i):∀ i,0<=y i:=by
 induction h with
 |zero=>exact fun i=>Rat.le_refl| @add a w z ha hp _ ih =>
  intro i;have h1:=Rat.mul_nonneg ha (g _ hp i);have h2:=ih i;show 0<=a*w i+z i;grind
theorem Cone.lin (h:Cone P y){M:List Nat}{f:Nat->Rat}(g:∀ w,P w->0<=smL M (fun i=>w i*f i)):0<=smL M (fun i=>y i*f i):=by
 induction h with
 |zero =>
  show 0<=smL M (fun i=>0*f i);rw[bX (f:=fun i=>0*f i) fun i _=>by grind];exact Rat.le_refl
 | @add a w z ha hp _ ih =>
  (have h1:=Rat.mul_nonneg ha (g _ hp);have:smL M (fun i=>(a*w i+z i)*f i)=a*smL M (fun i=>w i*f i)+smL M (fun i=>z i*f i):=by rw[<-kH,<-fS];exact xL fun i _=>by grind);rw[this];grind
theorem Cone.sup {S:Nat->Prop}(h:Cone P y)(g:∀ w,P w->∀ i,0<=w i)(hs:∀ i,¬S i->y i=0):Cone (fun w=>P w/\∀ i,¬S i->w i=0) y:=by
 induction h with
 |zero=>exact .zero| @add a w z ha hp hz ih =>
  (have hzn:=hz.nn g;have h1:∀ i,¬S i->a*w i=0/\z i=0:=fun i hi=>by have h2:=hs i hi;have h3:=Rat.mul_nonneg ha (g _ hp i);have h4:=hzn i;grind);by_cases ha0:a=0;{exact (ih fun i hi=>(h1 i hi).2).to fun i=>by rw[ha0];grind}
  {refine .add ha ⟨hp,fun i hi=>?_⟩ (ih fun i hi=>(h1 i hi).2);rcases Rat.mul_eq_zero.1 (h1 i hi).1 with h2|h2;{exact absurd h2 ha0};{exact h2}}
end
inductive Pair (P:(Nat->Rat)->Prop) (s:(Nat->Rat)->Rat):(Nat->Rat)->Prop where
 |keep {y:Nat->Rat}:P y->s y=0->Pair P s y
 |pair {y z:Nat->Rat}:P y->P z->0<s y->s z<0->Pair P s (fun i=>-(s z)*y i+s y*z i)
structure Lin (s:(Nat->Rat)->Rat):Prop where
 add:∀ y z,s (fun i=>y i+z i)=s y+s z
 mul:∀ a y,s (fun i=>a*y i)=a*s y
section
variable {P:(Nat->Rat)->Prop} {s:(Nat->Rat)->Rat}
theorem Lin.zero (h:Lin s):s (fun _=>0)=0:=by
 have h1:=h.mul 0 (fun _=>0);have:(fun _:Nat=>(0:Rat)*0)=fun _=>0:=funext fun _=>by grind
 rw[this] at h1;rw[h1];grind
theorem Lin.cmb (h:Lin s)(a:Rat)(y z:Nat->Rat):s (fun i=>a*y i+z i)=a*s y+s z:=by rw[h.add (fun i=>a*y i) z,h.mul]
theorem Lin.pair (h:Lin s){w:Nat->Rat}(hw:Pair P s w):s w=0:=by
 cases hw with
 |keep _ h1=>exact h1| @pair y z _ _ _ _=>rw[h.add (fun i=>-(s z)*y i) (fun i=>s y*z i),h.mul,h.mul];grind
theorem zKQ (hs:Lin s){p:Nat->Rat}(hp:P p)(hp0:0<s p){w:Nat->Rat}(h:Cone (fun y=>P y/\s y<0) w):∀ {a:Rat},0<=a->∃ z u,Cone (Pair P s) z/\(Cone (fun y=>P y/\0<s y) u\/Cone (fun y=>P y/\s y<0) u)/\∀ i,a*p i+w i=z i+u i:=by
 induction h with
 |zero=>exact fun {a} ha=>⟨fun _=>0,fun i=>a*p i+0,.zero,.inl (.add ha ⟨hp,hp0⟩ .zero),fun i=>by grind⟩| @add b q w hb hq hw ih =>
  intro a ha;have hadd:∀ c,0<=c->Cone (fun y=>P y/\s y<0) (fun i=>c*q i+w i):=fun c hc=>.add hc hq hw;obtain⟨hq1,hq2⟩:=hq;have hpq:Pair P s (fun i=>-(s q)*p i+s p*q i):=.pair hp hq1 hp0 hq2;have hinp:s p*(s p)⁻¹=1:=Rat.mul_inv_cancel _ (by grind);have hinq:s q*(s q)⁻¹=1:=Rat.mul_inv_cancel _ (by grind);have hip:0<(s p)⁻¹:=Rat.inv_pos.2 hp0;have hiq:0<(-(s q))⁻¹:=Rat.inv_pos.2 (by grind);have hinq':(-(s q))*(-(s q))⁻¹=1:=Rat.mul_inv_cancel _ (by grind);generalize (-(s q))⁻¹=iq at *
  generalize (s p)⁻¹=ip at *
  generalize s p=sp at *
  generalize s q=sq at *
  by_cases hc:a*sp<=b * -sq
  ·
   have hk:0<=a*iq:=Rat.mul_nonneg ha (Rat.le_of_lt hiq);refine⟨fun i=>a*iq*(-sq*p i+sp*q i)+0,fun i=>(b-a*sp*iq)*q i+w i,.add hk hpq .zero,.inr (hadd _ ?_),fun i=>?_⟩
   ·(have:0<=(b * -sq-a*sp)*iq:=Rat.mul_nonneg (by grind) (Rat.le_of_lt hiq);have e:(b * -sq-a*sp)*iq=b*(-sq*iq)-a*sp*iq:=by grind);rw[e,hinq'] at this
    grind
   ·(show a*p i+(b*q i+w i)=a*iq*(-sq*p i+sp*q i)+0+((b-a*sp*iq)*q i+w i);have e:a*iq*(-sq*p i+sp*q i)=a*(-sq*iq)*p i+a*sp*iq*q i:=by grind);rw[e,hinq']
    grind
  ·
   have hk:0<=b*ip:=Rat.mul_nonneg hb (Rat.le_of_lt hip);have ha':0<=a-b * -sq*ip:=by
    (have:0<=(a*sp-b * -sq)*ip:=Rat.mul_nonneg (by grind) (Rat.le_of_lt hip);have e:(a*sp-b * -sq)*ip=a*(sp*ip)-b * -sq*ip:=by grind);rw[e,hinp] at this
    grind
   (obtain⟨z,u,h1,h2,h3⟩:=ih ha';refine⟨fun i=>b*ip*(-sq*p i+sp*q i)+z i,u,.add hk hpq h1,h2,fun i=>?_⟩;show a*p i+(b*q i+w i)=b*ip*(-sq*p i+sp*q i)+z i+u i;have e:b*ip*(-sq*p i+sp*q i)=b * -sq*ip*p i+b*(sp*ip)*q i:=by grind);have:=h3 i
   rw[e,hinp];grind
end
section
variable {P:(Nat->Rat)->Prop} {s:(Nat->Rat)->Rat}
theorem Lin.neg (h:Lin s):Lin (fun y=>-(s y)):=⟨fun y z=>by rw[h.add];grind,fun a y=>by rw[h.mul];grind⟩
theorem zRR (h:Lin s){w:Nat->Rat}(hw:Pair P (fun y=>-(s y)) w):Pair P s w:=by
 cases hw with
 |keep h1 h2=>exact .keep h1 (by have:-(s w)=0:=h2;grind)| @pair y z h1 h2 h3 h4 =>
  (have e:(fun i=>-(-(s z))*y i+-(s y)*z i)=fun i=>-(s y)*z i+s z*y i:=funext fun i=>by grind);show Pair P s (fun i=>-(-(s z))*y i+-(s y)*z i)
  rw[e];exact .pair h2 h1 (by have:-(s z)<0:=h4;grind) (by have:0 < -(s y):=h3;grind)
theorem Cone.mono {P Q:(Nat->Rat)->Prop}{y:Nat->Rat}(h:Cone P y)(g:∀ w,P w->Q w):Cone Q y:=h.bind fun w hw=>.one (g w hw)
theorem zL5 (hs:Lin s){w:Nat->Rat}(h:Cone P w):∃ z u,Cone (Pair P s) z/\(Cone (fun y=>P y/\0<s y) u\/Cone (fun y=>P y/\s y<0) u)/\∀ i,w i=z i+u i:=by
 induction h with
 |zero=>exact⟨_,_,.zero,.inl .zero,fun i=>by grind⟩| @add a y w ha hy _ ih =>
  obtain⟨z,u,h1,h2,h3⟩:=ih;by_cases h0:s y=0;{exact⟨_,u,.add ha (.keep hy h0) h1,h2,fun i=>by have e9:=h3 i;grind⟩}
  ·by_cases hp:0<s y;{rcases h2 with h2|h2;{exact⟨z,_,h1,.inl (.add ha ⟨hy,hp⟩ h2),fun i=>by have e9:=h3 i;grind⟩};{obtain⟨z2,u2,g1,g2,g3⟩:=zKQ hs hy hp h2 ha;exact⟨_,u2,h1.plus g1,g2,fun i=>by have:=g3 i;have e9:=h3 i;grind⟩}}
   ·(have hn:s y<0:=by grind);rcases h2 with h2|h2
    {obtain⟨z2,u2,g1,g2,g3⟩:=zKQ hs.neg (P:=P) (p:=y) hy (show 0 < -(s y) by grind) (h2.mono fun w hw=>⟨hw.1,show -(s w)<0 by have:=hw.2;grind⟩) ha;refine⟨_,u2,h1.plus (g1.mono fun w hw=>zRR hs hw),?_,fun i=>by have:=g3 i;have e9:=h3 i;grind⟩;rcases g2 with g2|g2;{exact .inr (g2.mono fun w hw=>⟨hw.1,by have:0 < -(s w):=hw.2;grind⟩)};{exact .inl (g2.mono fun w hw=>⟨hw.1,by have:-(s w)<0:=hw.2;grind⟩)}};{exact⟨z,_,h1,.inr (.add ha ⟨hy,hn⟩ h2),fun i=>by have e9:=h3 i;grind⟩}
theorem zQC (hs:Lin s){w:Nat->Rat}(h:Cone (Pair P s) w):s w=0:=by
 induction h with
 |zero=>exact hs.zero| @add a y z ha hy _ ih=>rw[hs.cmb,hs.pair hy,ih];grind
theorem zKP (hs:Lin s){w:Nat->Rat}(h:Cone (fun y=>P y/\0<s y) w):0<=s w/\(s w=0->∀ i,w i=0):=by
 induction h with
 |zero=>exact⟨by rw[hs.zero];exact Rat.le_refl,fun _ _=>rfl⟩| @add a y z ha hy _ ih =>
  (have h1:=Rat.mul_nonneg ha (Rat.le_of_lt hy.2);rw[hs.cmb];refine⟨by have:=ih.1;grind,fun h0 i=>?_⟩;have h2:a*s y=0:=by have:=ih.1;grind);have h3:s z=0:=by grind
  rcases Rat.mul_eq_zero.1 h2 with h4|h4;{have e9:=ih.2 h3 i;show a*y i+z i=0;rw[h4,e9];grind};{exact absurd hy.2 (by rw[h4];decide)}
theorem zVY (hs:Lin s){w:Nat->Rat}(h:Cone P w)(h0:s w=0):Cone (Pair P s) w:=by
 obtain⟨z,u,h1,h2,h3⟩:=zL5 hs h;have hw:w=fun i=>z i+u i:=funext h3;have hu:s u=0:=by rw[hw,hs.add,zQC hs h1] at h0;grind
 have hz:∀ i,u i=0:=by rcases h2 with h2|h2;{exact (zKP hs h2).2 hu};{exact (zKP hs.neg (h2.mono fun w hw=>⟨hw.1,show 0 < -(s w) by have:=hw.2;grind⟩)).2 (by show -(s u)=0;rw[hu];decide)}
 exact h1.to fun i=>by rw[h3 i,hz i];grind
end
structure Canc (M:List Nat) (E:List (Nat->Rat)) (y:Nat->Rat):Prop where
 nn:∀ i,0<=y i
 off:∀ i,i∉M->y i=0
 col:∀ f,f∈E->smL M (fun i=>y i*f i)=0
def rD (M:List Nat) (y:Nat->Rat):List Nat:=M.filter fun i=>decide (y i≠0)
theorem dne {q:Rat}:decide (q≠0)=true↔q≠0:=⟨fun h=>of_decide_eq_true h,fun h=>decide_eq_true h⟩
theorem nM {p q:Nat->Bool}:∀ {M:List Nat},(∀ i,i∈M->q i=true->p i=true)->(M.filter q).length<=(M.filter p).length/\((∃ i,i∈M/\p i=true/\q i=false)->(M.filter q).length<(M.filter p).length)
 |[],_=>⟨Nat.le_refl _,fun⟨i,h,_⟩=>absurd h (by simp)⟩| j::M,h=>by
  have ih:=nM (p:=p) (q:=q) (M:=M) fun i hi=>h i (List.mem_cons_of_mem _ hi);have hj:=h j List.mem_cons_self;cases hq:q j with
  |true =>
   have hp:=hj hq;rw[List.filter_cons_of_pos hq,List.filter_cons_of_pos hp,List.length_cons,List.length_cons];refine⟨by have:=ih.1;omega,fun⟨i,h1,h2,h3⟩=>?_⟩;have:=ih.2 ⟨i,by
    rcases List.mem_cons.1 h1 with rfl|h1;{rw[hq] at h3;cases h3}
    ·exact h1,h2,h3⟩
   omega
  |false =>
   rw[List.filter_cons_of_neg (by rw[hq];decide)];cases hp:p j with
   |true =>
    rw[List.filter_cons_of_pos hp,List.length_cons];have:=ih.1;exact⟨by omega,fun _=>by omega⟩
   |false =>
    rw[List.filter_cons_of_neg (by rw[hp];decide)];refine⟨ih.1,fun⟨i,h1,h2,h3⟩=>ih.2 ⟨i,?_,h2,h3⟩⟩;rcases List.mem_cons.1 h1 with rfl|h1;{rw[hp] at h2;cases h2};{exact h1}
theorem zUX {M:List Nat}{y z:Nat->Rat}(h:∀ i,y i=0->z i=0):(rD M z).length<=(rD M y).length :=
 (nM fun i _ hi=>dne.2 fun e=>dne.1 hi (h i e)).1
theorem zNM {M:List Nat}{y z:Nat->Rat}(h:∀ i,y i=0->z i=0){i:Nat}(hi:i∈M)(h1:y i≠0)(h2:z i=0):(rD M z).length<(rD M y).length :=
 (nM fun i _ hi=>dne.2 fun e=>dne.1 hi (h i e)).2 ⟨i,hi,dne.2 h1,by cases hd:decide (z i≠0) with|false=>rfl|true=>exact absurd h2 (dne.1 hd)⟩
theorem zW0 {d y:Nat->Rat}(hy:∀ i,0<=y i):∀ {L:List Nat},(∃ j,j∈L/\0<d j)->∃ t,0<=t/\(∀ i,i∈L->t*d i<=y i)/\∃ i,i∈L/\0<d i/\t*d i=y i
 |[],⟨j,h,_⟩=>absurd h (by simp)| x::L,h=>by
  (have hx0:0<d x->0<=y x*(d x)⁻¹/\y x*(d x)⁻¹*d x=y x:=fun hx=>by have h1:=Rat.inv_mul_cancel (d x) (by grind);exact⟨Rat.mul_nonneg (hy x) (Rat.le_of_lt (Rat.inv_pos.2 hx)),by rw[Rat.mul_assoc,h1];grind⟩);by_cases ht:∃ j,j∈L/\0<d j
  ·obtain⟨t,h1,h2,i,h3,h4,h5⟩:=zW0 hy ht;by_cases hx:t*d x<=y x
   ·exact⟨t,h1,fun k hk=>by
     rcases List.mem_cons.1 hk with rfl|hk;{exact hx}
     ·exact h2 k hk,i,List.mem_cons_of_mem _ h3,h4,h5⟩
   ·(have hdx:0<d x:=by by_cases h6:0<d x;{exact h6};{have:=Rat.mul_nonneg h1 (show 0<=-(d x) by grind);have:=hy x;grind});obtain⟨g1,g2⟩:=hx0 hdx;refine⟨_,g1,fun k hk=>?_,x,List.mem_cons_self,hdx,g2⟩;generalize y x*(d x)⁻¹=t' at *
    rcases List.mem_cons.1 hk with rfl|hk;{rw[g2];exact Rat.le_refl}
    ·(have hlt:t'<=t:=by by_cases h7:t'<=t;{exact h7};{have:=Rat.mul_nonneg (show 0<=t'-t by grind) (Rat.le_of_lt hdx);grind});have h8:=h2 k hk;by_cases h9:0<=d k;{have:=Rat.mul_nonneg (show 0<=t-t' by grind) h9;grind};{have:=Rat.mul_nonneg g1 (show 0<=-(d k) by grind);have:=hy k;grind}
  ·(have hx:0<d x:=by obtain⟨j,h1,h2⟩:=h;rcases List.mem_cons.1 h1 with rfl|h1;{exact h2};{exact absurd ⟨j,h1,h2⟩ ht});obtain⟨g1,g2⟩:=hx0 hx;refine⟨_,g1,fun k hk=>?_,x,List.mem_cons_self,hx,g2⟩;generalize y x*(d x)⁻¹=t' at *
   rcases List.mem_cons.1 hk with rfl|hk;{rw[g2];exact Rat.le_refl};{have h9:¬0<d k:=fun h=>ht ⟨k,hk,h⟩;have:=Rat.mul_nonneg g1 (show 0<=-(d k) by grind);have:=hy k;grind}
section
variable {M:List Nat} {E:List (Nat->Rat)}
theorem Canc.sub {y d:Nat->Rat}(h:Canc M E y)(hd:∀ i,y i=0->d i=0)(hc:∀ f,f∈E->smL M (fun i=>d i*f i)=0)(hp:∃ j,j∈M/\0<d j):∃ t,0<t/\Canc M E (fun i=>y i-t*d i)/\(rD M (fun i=>y i-t*d i)).length<(rD M y).length:=by
 obtain⟨t,h1,h2,i,h3,h4,h5⟩:=zW0 h.nn hp;have hyi:y i≠0:=fun e=>by rw[hd i e] at h4;exact absurd h4 (by decide)
 have ht:0<t:=by have:=h.nn i;by_cases h0:t=0;{rw[h0] at h5;exact absurd (h5.symm.trans (by grind)) hyi};{grind}
 refine⟨t,ht,⟨fun k=>?_,fun k hk=>by rw[h.off k hk,hd k (h.off k hk)];grind,fun f hf=>?_⟩,zNM (fun k hk=>by rw[hk,hd k hk];grind) h3 hyi (by rw[h5];grind)⟩;{by_cases hk:k∈M;{have:=h2 k hk;grind};{rw[h.off k hk,hd k (h.off k hk)];grind}}
 ·(have e:smL M (fun i=>(y i-t*d i)*f i)=smL M (fun i=>y i*f i)+-t*smL M (fun i=>d i*f i):=by rw[<-kH,<-fS];exact xL fun i _=>by grind);rw[e,h.col f hf,hc f hf];grind
theorem m0 (hM:M.Nodup):∀ (n:Nat) {y:Nat->Rat},(rD M y).length<=n->Canc M E y->Cone (fun w=>Canc M E w/\(rD M w).length<=E.length+1) y
 |0,y,hn,h=>.one ⟨h,by omega⟩| n+1,y,hn,h=>by
  by_cases hs:(rD M y).length<=E.length+1;{exact .one ⟨h,hs⟩}
  ·obtain⟨i0,S',hS⟩:∃ i0 S',rD M y=i0::S':=by
    cases hq:rD M y with
    |nil=>rw[hq] at hs;simp at hs| cons a b=>exact⟨a,b,rfl⟩
   have hnd:(rD M y).Nodup:=hM.filter _;rw[hS] at hnd;obtain⟨hn1,hn2⟩:=List.nodup_cons.1 hnd;obtain⟨d,⟨j,hj,hj0⟩,hoff,hcol⟩:=zHM E S' hn2 (by rw[hS,List.length_cons] at hs;omega);have hin:∀ i,i∈S'->i∈M/\y i≠0:=fun i hi=>by
    (have:i∈rD M y:=by rw[hS];exact List.mem_cons_of_mem _ hi);obtain⟨g1,g2⟩:=List.mem_filter.1 this
    exact⟨g1,dne.1 g2⟩
   have hi0:i0∈M/\y i0≠0:=by
    (have:i0∈rD M y:=by rw[hS];exact List.mem_cons_self);obtain⟨g1,g2⟩:=List.mem_filter.1 this
    exact⟨g1,dne.1 g2⟩
   have hd:∀ i,y i=0->d i=0:=fun i e=>hoff i fun hi=>(hin i hi).2 e;have hc:∀ f,f∈E->smL M (fun i=>d i*f i)=0:=fun f hf=>by
    (have h1:smL (rD M y) (fun i=>d i*f i)=smL M (fun i=>d i*f i):=by unfold rD;rw[lP];refine xL fun i _=>?_;split;{rfl};{rename_i hp;have:y i=0:=Classical.byContradiction fun e=>hp (dne.2 e);rw[hd i this];grind});have h2:=hcol f hf;rw[<-h1,hS,smL,hoff i0 hn1];have h3:smL S' (fun j=>f j*d j)=smL S' (fun i=>d i*f i):=xL fun i _=>Rat.mul_comm _ _;rw[<-h3,h2];grind
   
   have core:∀ d:Nat->Rat,(∀ i,y i=0->d i=0)->(∀ f,f∈E->smL M (fun i=>d i*f i)=0)->d i0=0->(∃ j,j∈M/\0<d j)->Cone (fun w=>Canc M E w/\(rD M w).length<=E.length+1) y:=fun d hd hc h0 hp=>by
    obtain⟨t,ht,g1,g2⟩:=h.sub hd hc hp;have ih:=m0 hM n (y:=fun i=>y i-t*d i) (by omega) g1;by_cases hneg:∃ j,j∈M/\d j<0
    ·obtain⟨j,hj,hjn⟩:=hneg;obtain⟨t',ht',k1,k2⟩:=h.sub (d:=fun i=>-d i) (fun i e=>by rw[hd i e];grind) (fun f hf=>by
      (have:smL M (fun i=>-d i*f i)=-1*smL M (fun i=>d i*f i):=by rw[<-kH];exact xL fun i _=>by grind);rw[this,hc f hf];grind) ⟨j,hj,by grind⟩
     (have ih2:=m0 hM n (y:=fun i=>y i-t' * -d i) (by omega) k1;have hpos:0<t+t':=by grind);have hiv:(t+t')⁻¹*(t+t')=1:=Rat.inv_mul_cancel _ (by grind)
     have hip:=Rat.inv_pos.2 hpos;generalize (t+t')⁻¹=w at *
     (refine ((ih.scale (b:=t'*w) (Rat.mul_nonneg (Rat.le_of_lt ht') (Rat.le_of_lt hip))).plus (ih2.scale (b:=t*w) (Rat.mul_nonneg (Rat.le_of_lt ht) (Rat.le_of_lt hip)))).to fun i=>?_;have:t'*w*(y i-t*d i)+t*w*(y i-t' * -d i)=w*(t+t')*y i:=by grind);rw[this,hiv];grind
    ·(have hdn:∀ i,0<=d i:=fun i=>by by_cases hi:i∈M;{have:¬d i<0:=fun e=>hneg ⟨i,hi,e⟩;grind};{rw[hd i (h.off i hi)];exact Rat.le_refl});have hC:Canc M E d:=⟨hdn,fun i hi=>hd i (h.off i hi),hc⟩;have ih2:=m0 hM n (y:=d) (by have:=zNM (M:=M) hd hi0.1 hi0.2 h0;omega) hC;exact (ih.plus (ih2.scale (Rat.le_of_lt ht))).to fun i=>by grind
   by_cases hp:∃ j,j∈M/\0<d j;{exact core d hd hc (hoff i0 hn1) hp}
   ·refine core (fun i=>-d i) (fun i e=>by rw[hd i e];grind) (fun f hf=>?_) (by rw[hoff i0 hn1];grind) ⟨j,(hin j hj).1,?_⟩
    ·(have:smL M (fun i=>-d i*f i)=-1*smL M (fun i=>d i*f i):=by rw[<-kH];exact xL fun i _=>by grind);rw[this,hc f hf];grind
    {have:¬0<d j:=fun e=>hp ⟨j,(hin j hj).1,e⟩;grind}
def Gen (M:List Nat) (E:List (Nat->Rat)) (P:(Nat->Rat)->Prop):Prop:=∀ y,Canc M E y->Cone P y
theorem zVR {M:List Nat}{f:Nat->Rat}:Lin (fun y=>smL M (fun i=>y i*f i)) :=
 ⟨fun y z=>by rw[<-fS];exact xL fun i _=>by grind,fun a y=>by rw[<-kH];exact xL fun i _=>by grind⟩
theorem Gen.step (hM:M.Nodup){P Q:(Nat->Rat)->Prop}{f:Nat->Rat}(hP:∀ w,P w->∀ i,0<=w i)(h:Gen M E P) (hk:∀ w,Pair P (fun y=>smL M (fun i=>y i*f i)) w->(rD M w).length<=E.length+2->Cone Q w):Gen M (f::E) Q:=fun y hy=>by
 have h1:=m0 hM _ (Nat.le_refl _) hy;refine h1.bind fun w hw=>?_;obtain⟨hw,hl⟩:=hw;have hs:=zVR (M:=M) (f:=f);have h2:=zVY hs (h w ⟨hw.nn,hw.off,fun g hg=>hw.col g (List.mem_cons_of_mem _ hg)⟩) (hw.col f List.mem_cons_self);have hnn:∀ u,Pair P (fun y=>smL M (fun i=>y i*f i)) u->∀ i,0<=u i:=fun u hu i=>by
  cases hu with
  |keep h1 _=>exact hP u h1 i| @pair y z h1 h2 h3 h4 =>
   have g1:=Rat.mul_nonneg (show 0<=-(smL M (fun i=>z i*f i)) by have:smL M (fun i=>z i*f i)<0:=h4;grind) (hP _ h1 i);have g2:=Rat.mul_nonneg (show 0<=smL M (fun i=>y i*f i) from Rat.le_of_lt h3) (hP _ h2 i);show 0<=-(smL M (fun i=>z i*f i))*y i+smL M (fun i=>y i*f i)*z i;grind
 refine (h2.sup (S:=fun i=>w i≠0) hnn fun i hi=>Classical.byContradiction fun e=>hi e).bind fun u hu=>?_;refine hk u hu.1 ?_;have:=zUX (M:=M) (y:=w) (z:=u) fun i e=>hu.2 i fun h=>h e;simp only[List.length_cons] at hl;omega
end
structure FR where
 c:List Int
 fr:Nat
def FR.at' (p:FR) (v:Nat):Int:=p.c.getD v 0
def gcdL:Nat->List Int->Nat
 |d,[]=>d| d,x::r=>gcdL (Nat.gcd x.natAbs d) r
def gE (d:Nat):List Int->List Int×Bool
 |[]=>([],true)| x::r=>if (if 1<d then x.tdiv d else x).natAbs<=1073741824 then ((if 1<d then x.tdiv d else x)::(gE d r).1,(gE d r).2) else ((if 1<d then x.tdiv d else x)::r,false)
def dI (c:List Int):List Int×Bool:=gE (gcdL 0 c) c
def mD:List Nat->Nat->Option Nat
 |[],a=>some a| d::r,a=>if a/Nat.gcd a d*d<=1073741824 then mD r (a/Nat.gcd a d*d) else none
def cfs (f:F) (vars:Nat):List Rat:=(List.range vars).map (fun i:Nat=>co f.ts (i:Int))++[f.c]
def smQ (q:Rat):Bool:=decide (q.num.natAbs<=1073741824/\q.den<=1073741824)
def sW (f:F) (vars:Nat):List Int×Bool :=
 if (cfs f vars).all smQ=true then (match mD ((cfs f vars).map Rat.den) 1 with
  |none=>([],false)| some a=>dI ((cfs f vars).map fun q=>q.num*((a/q.den:Nat):Int)))
 else ([],false)
def jR (x:Nat):Nat:=if h:x=0 then 0 else x%2+jR (x/2)
termination_by x
decreasing_by omega
def cM (p q:FR) (v:Nat):List Int:=(List.range p.c.length).map fun n=>p.at' n * -(q.at' v)+q.at' n*p.at' v
def t5 (p q:FR) (v:Nat):FR:=⟨(dI (cM p q v)).1,p.fr ||| q.fr⟩
def elC (p q:FR) (v k:Nat):Prop:=0<p.at' v/\q.at' v<0/\jR (p.fr ||| q.fr)<=k+1
instance (p q:FR) (v k:Nat):Decidable (elC p q v k):=by unfold elC;infer_instance
def elJ (p:FR) (v k:Nat):List FR->List FR->Option (List FR)
 |[],out=>some out| q::r,out=>if elC p q v k then (if (dI (cM p q v)).2=true then elJ p v k r (out++[t5 p q v]) else none) else elJ p v k r out
def elI (v k:Nat) (l:List FR):List FR->List FR->Option (List FR)
 |[],out=>some out
 |p::r,out=>match elJ p v k l out with
  |none=>none| some o=>elI v k l r o
def elS (l:List FR) (v k:Nat):Option (List FR):=elI v k l l (l.filter fun p=>decide (p.at' v=0))
def prs (l:List FR) (v:Nat):Nat:=(l.filter fun p=>decide (0<p.at' v)).length*(l.filter fun p=>decide (p.at' v<0)).length
def kQ (l:List FR) (done:List Bool):List Nat->Int->Int
 |[],b=>b| v::r,b=>if done.getD v false=false/\(b<0\/prs l v<prs l b.toNat) then kQ l done r (v:Int) else kQ l done r b
def oC (n:Nat):Nat->List Bool->List FR->Option (List FR)
 |0,_,l=>some l
 |f+1,done,l=>if 20000<prs l (kQ l done (List.range n) (-1)).toNat then none else
  (match elS l (kQ l done (List.range n) (-1)).toNat (n-f) with
  |none=>none| some m=>oC n f (done.set (kQ l done (List.range n) (-1)).toNat true) m)
def zV3:Option Rat->Option Rat->Nat×Rat
 |none,_=>(3,0)| some a,none=>(1,a)| some a,some b=>if b<a then (2,0) else (1,a)
def zMH (v:Rat):Option Rat->Rat
 |none=>v| some a=>if a<v then v else a
def zMJ (v:Rat):Option Rat->Rat
 |none=>v| some b=>if v<b then v else b
def FR.lim (p:FR) (n:Nat):Rat:=pR (-(p.at' (n+1))) (p.at' n)
def kO (n:Nat):List FR->Option Rat->Option Rat->Nat×Rat
 |[],lo,hi=>zV3 lo hi
 |p::r,lo,hi=>if p.at' n=0 then (if p.at' (n+1)<0 then (2,0) else kO n r lo hi) else
  (if 0<p.at' n then kO n r (some (zMH (p.lim n) lo)) hi else kO n r lo (some (zMJ (p.lim n) hi)))
def rY (vars:Nat):List F->Nat->List FR->Option (List FR)
 |[],_,acc=>some acc| f::r,i,acc=>if (sW f vars).2=true then rY vars r (i+1) (acc++[⟨(sW f vars).1,2^i⟩]) else none
def iI (n:Nat) (fs:List F) (ob:F):List F:=(F.var n).sub ob::((F.var n).sub ob).scale (-1)::fs
def sR (n:Nat) (fs:List F) (ob:F):Nat×Rat :=
 if 62<fs.length+2 then (0,0) else (match rY (n+1) (iI n fs ob) 0 [] with
  |none=>(0,0)
  |some l=>(match oC n n (List.replicate n false) l with
   |none=>(0,0)| some m=>kO n m none none))
theorem zJ6:∀ (l:List Int) (d:Nat),gcdL d l ∣ d/\∀ x,x∈l->gcdL d l ∣ x.natAbs
 |[],d=>⟨Nat.dvd_refl _,fun x h=>absurd h (by simp)⟩| x::r,d=>by obtain⟨h1,h2⟩:=zJ6 r (Nat.gcd x.natAbs d);refine⟨Nat.dvd_trans h1 (zBS _ _),fun y hy=>?_⟩;rcases z9.1 hy with rfl|hy;{exact Nat.dvd_trans h1 (Nat.gcd_dvd_left _ _)};{exact h2 y hy}
theorem zJI {d:Nat}:∀ {l:List Int},(∀ x,x∈l->d ∣ x.natAbs)->(gE d l).2=true ->(gE d l).1.length=l.length/\(∀ n,l.getD n 0=(((if 1<d then d else 1:Nat)):Int)*(gE d l).1.getD n 0)/\∀ x,x∈(gE d l).1->x.natAbs<=1073741824
 |[],_,_=>⟨rfl,fun n=>by simp[gE],fun x h=>absurd h (by simp[gE])⟩| x::r,h,hb=>by
  rw[gE] at hb ⊢;by_cases hx:(if 1<d then x.tdiv d else x).natAbs<=1073741824
  ·rw[if_pos hx] at hb ⊢;obtain⟨h1,h2,h3⟩:=zJI (d:=d) (l:=r) (fun y hy=>h y (xI _ hy)) hb;refine⟨by simp only[x7,h1],fun n=>?_,fun y hy=>?_⟩
   ·cases n with
    |zero =>
     simp only[oU];split;{have:=h x xD;exact (Int.mul_tdiv_cancel' (Int.ofNat_dvd_left.2 this)).symm};{simp}
    |succ n=>simp only[mP];exact h2 n
   {rcases z9.1 hy with rfl|hy;{exact hx};{exact h3 y hy}}
  {rw[if_neg hx] at hb;cases hb}
theorem zHE {l:List Int}(h:(dI l).2=true):(dI l).1.length=l.length/\(∃ g:Nat,0<g/\∀ n,l.getD n 0=(g:Int)*(dI l).1.getD n 0)/\∀ x,x∈(dI l).1->x.natAbs<=1073741824:=by obtain⟨h1,h2,h3⟩:=zJI (d:=gcdL 0 l) (l:=l) (zJ6 l 0).2 h;exact⟨h1,⟨_,by split <;> omega,h2⟩,h3⟩
theorem o7 {d:Nat}:∀ {l:List Int},(gE d l).1.length=l.length
 |[]=>rfl| x::r=>by rw[gE];by_cases hx:(if 1<d then x.tdiv d else x).natAbs<=1073741824;{rw[if_pos hx];simp only[x7,o7 (l:=r)]};{rw[if_neg hx];simp only[x7]}
theorem zJW:∀ {l:List Nat} {a m:Nat},0<a->(∀ d,d∈l->0<d)->mD l a=some m->0<m/\a ∣ m/\∀ d,d∈l->d ∣ m
 |[],a,m,ha,_,h=>by rw[mD] at h;obtain rfl:=vC h;exact⟨ha,Nat.dvd_refl _,fun d hd=>absurd hd (by simp)⟩
 |d::r,a,m,ha,hd,h=>by
  rw[mD] at h;split at h
  ·have hd0:=hd d xD;have hg:0<Nat.gcd a d:=Nat.gcd_pos_of_pos_left _ ha;have hq:0<a/Nat.gcd a d:=Nat.div_pos (zBT ha (Nat.gcd_dvd_left _ _)) hg;obtain⟨h1,h2,h3⟩:=zJW (l:=r) (Nat.mul_pos hq hd0) (fun e he=>hd e (xI _ he)) h;have h4:a ∣ a/Nat.gcd a d*d:=by
    obtain⟨e,he⟩:=zBS a d;refine⟨e,?_⟩;have h5:=Nat.div_mul_cancel (Nat.gcd_dvd_left a d);generalize a/Nat.gcd a d=q at *
    calc q*d=q*(Nat.gcd a d*e):=by rw[<-he]
     _=(q*Nat.gcd a d)*e:=by rw[vI]
     _=a*e:=by rw[h5]
   refine⟨h1,Nat.dvd_trans h4 h2,fun e he=>?_⟩;rcases z9.1 he with rfl|he;{exact Nat.dvd_trans (Nat.dvd_mul_left _ _) h2};{exact h3 e he}
  {cases h}
theorem zHY {f:F}{n:Nat}:(cfs f n).length=n+1:=by simp[cfs]
theorem zVP (q:Rat):(q.den:Rat)*q=(q.num:Rat):=by
 have h1:=Rat.num_divInt_den q;rw[Rat.divInt_eq_div,fF] at h1;have h2:(((q.den:Nat):Int):Rat)=(q.den:Rat):=rfl;rw[h2] at h1;have h3:=zBQ (q.den:Rat) (by
  (intro e;have h8:=q.den_pos;have:q.den=0:=by exact_mod_cast e);omega)
 generalize ((q.den:Nat):Rat)=d at *
 generalize d⁻¹=w at *
 generalize ((q.num:Int):Rat)=n at *
 have h4:d*q=n*(w*d):=by rw[<-h1];grind
 rw[h4,h3];grind
theorem zPJ {q:Rat}{a:Nat}(h:q.den ∣ a):((q.num*((a/q.den:Nat):Int):Int):Rat)=(a:Rat)*q:=by
 obtain⟨e,he⟩:=h;have h1:=zVP q;have h2:(a:Rat)=(q.den:Rat)*(e:Rat):=by rw[he];exact Rat.natCast_mul _ _
 have h4:a/q.den=e:=by rw[he];exact Nat.mul_div_cancel_left _ q.den_pos
 rw[h4,h2,zE9,<-h1];have h3:(((e:Nat):Int):Rat)=(e:Rat):=rfl;rw[h3];grind
theorem zHW {f : F} {n : Nat} (h : (sW f n).2 = true) : (sW f n).1.length = n + 1 ∧ (∀ x, x ∈ (sW f n).1 → x.natAbs ≤ 1073741824) ∧ ∃ k : Rat, 0 < k ∧ ∀ u, (((sW f n).1.getD u 0 : Int) : Rat) = k * (cfs f n).getD u 0 := by
  unfold sW at h ⊢
  split at h
  · rename_i h0
    rw [if_pos h0]
    split at h
    · cases h
    · rename_i a ha
      obtain ⟨h1, ⟨g, hg, h2⟩, h3⟩ := zHE h
      obtain ⟨m1, _, m3⟩ := zJW Nat.zero_lt_one (fun d hd => by
        obtain ⟨q, _, rfl⟩ := yS.1 hd
        exact q.den_pos) ha
      refine ⟨by rw [h1, y8, zHY], h3, (a : Rat) * (g : Rat)⁻¹, ?_, fun u => ?_⟩
      · exact Rat.mul_pos (by exact_mod_cast m1) (iL.2 (by exact_mod_cast hg))
      · have h4 := h2 u
        have hg0 : (g : Rat)⁻¹ * (g : Rat) = 1 := zBQ _ (by intro e; have h0 : g = 0 := (by exact_mod_cast e); omega)
        have h5 : ((((cfs f n).map fun q => q.num * ((a / q.den : Nat) : Int)).getD u 0 : Int) : Rat) = (a : Rat) * (cfs f n).getD u 0 := by
          rw [yC, vU, yC]
          cases hu : (cfs f n)[u]? with
          | none => show ((0 : Int) : Rat) = (a : Rat) * 0; rw [sZ]; rfl
          | some q => exact zPJ (m3 _ (mO (zZ hu)))
        rw [h4, zE9] at h5
        have h6 : (((g : Nat) : Int) : Rat) = (g : Rat) := rfl
        rw [h6] at h5
        generalize (((dI ((cfs f n).map fun q => q.num * ((a / q.den : Nat) : Int))).1.getD u 0 : Int) : Rat) = x at *
        generalize (cfs f n).getD u 0 = y at *
        have h7 : x = (g : Rat)⁻¹ * (g : Rat) * x := by rw [hg0]; grind
        rw [h7]
        generalize (g : Rat)⁻¹ = w at *
        grind
  · cases h
theorem zEB:∀ (N x:Nat),x<2^N->jR x=((List.range N).filter fun i=>x.testBit i).length
 |0,x,h=>by
  (have:x=0:=by simpa using h);subst this
  rw[jR];rfl
 |N+1,x,h=>by
  (have ih:=zEB N (x/2) (by rw[xS] at h;omega);have h1:jR x=x%2+jR (x/2):=by by_cases hx:x=0;{subst hx;rw[jR,jR];simp};{rw[jR,dif_neg hx]});rw[h1,ih,zIS,zE8];have h2:((List.map Nat.succ (List.range N)).filter fun i=>x.testBit i)=((List.range N).filter fun i=>(x/2).testBit i).map Nat.succ:=by rw[List.filter_map];congr 1;refine List.filter_congr fun i _=>?_;show x.testBit (i+1)=(x/2).testBit i;rw[Nat.testBit_succ]
  (rw[h2];have h3:x.testBit 0=decide (x%2=1):=by rw[Nat.testBit_zero]);rw[h3]
  by_cases h4:x%2=1;{rw[if_pos (decide_eq_true h4),x7,y8,h4];omega};{rw[if_neg (by rw[decide_eq_false h4];decide),y8];omega}
end Go.Proofs.YtfainocfaddbdaaGreat
