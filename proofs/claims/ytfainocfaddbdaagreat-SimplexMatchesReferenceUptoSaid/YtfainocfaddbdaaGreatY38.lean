/- A part of the proof: SxR, SxS, SxT. -/
import Derived.Test.YtfainocfaddbdaaGreatY37
import Derived.Test.YtfainocfaddbdaaGreatY36
set_option linter.all false
namespace Go.Proofs.YtfainocfaddbdaaGreat
open Go
section
variable {P:(Nat->Rat)->Prop} {s:(Nat->Rat)->Rat}
theorem Lin.neg (h:Lin s):Lin (fun y=>-(s y)):=⟨fun y z=>by rw[h.add];grind,fun a y=>by rw[h.mul];grind⟩
theorem zLB (h:Lin s){w:Nat->Rat}(hw:Pair P (fun y=>-(s y)) w):Pair P s w:=by
 cases hw with
 |keep h1 h2=>exact .keep h1 (by have:-(s w)=0:=h2;grind)| @pair y z h1 h2 h3 h4 =>
  (have e:(fun i=>-(-(s z))*y i+-(s y)*z i)=fun i=>-(s y)*z i+s z*y i:=funext fun i=>by grind);show Pair P s (fun i=>-(-(s z))*y i+-(s y)*z i)
  rw[e];exact .pair h2 h1 (by have:-(s z)<0:=h4;grind) (by have:0 < -(s y):=h3;grind)
theorem Cone.mono {P Q:(Nat->Rat)->Prop}{y:Nat->Rat}(h:Cone P y)(g:∀ w,P w->Q w):Cone Q y:=h.bind fun w hw=>.one (g w hw)
theorem zGF (hs:Lin s){w:Nat->Rat}(h:Cone P w):∃ z u,Cone (Pair P s) z/\(Cone (fun y=>P y/\0<s y) u\/Cone (fun y=>P y/\s y<0) u)/\∀ i,w i=z i+u i:=by
 induction h with
 |zero=>exact⟨_,_,.zero,.inl .zero,fun i=>by grind⟩| @add a y w ha hy _ ih =>
  obtain⟨z,u,h1,h2,h3⟩:=ih;by_cases h0:s y=0;{exact⟨_,u,.add ha (.keep hy h0) h1,h2,fun i=>by have e9:=h3 i;grind⟩}
  ·by_cases hp:0<s y;{rcases h2 with h2|h2;{exact⟨z,_,h1,.inl (.add ha ⟨hy,hp⟩ h2),fun i=>by have e9:=h3 i;grind⟩};{obtain⟨z2,u2,g1,g2,g3⟩:=zFD hs hy hp h2 ha;exact⟨_,u2,h1.plus g1,g2,fun i=>by have:=g3 i;have e9:=h3 i;grind⟩}}
   ·(have hn:s y<0:=by grind);rcases h2 with h2|h2
    {obtain⟨z2,u2,g1,g2,g3⟩:=zFD hs.neg (P:=P) (p:=y) hy (show 0 < -(s y) by grind) (h2.mono fun w hw=>⟨hw.1,show -(s w)<0 by have:=hw.2;grind⟩) ha;refine⟨_,u2,h1.plus (g1.mono fun w hw=>zLB hs hw),?_,fun i=>by have:=g3 i;have e9:=h3 i;grind⟩;rcases g2 with g2|g2;{exact .inr (g2.mono fun w hw=>⟨hw.1,by have:0 < -(s w):=hw.2;grind⟩)};{exact .inl (g2.mono fun w hw=>⟨hw.1,by have:-(s w)<0:=hw.2;grind⟩)}};{exact⟨z,_,h1,.inr (.add ha ⟨hy,hn⟩ h2),fun i=>by have e9:=h3 i;grind⟩}
theorem zJ1 (hs:Lin s){w:Nat->Rat}(h:Cone (Pair P s) w):s w=0:=by
 induction h with
 |zero=>exact hs.zero| @add a y z ha hy _ ih=>rw[hs.cmb,hs.pair hy,ih];grind
theorem zFC (hs:Lin s){w:Nat->Rat}(h:Cone (fun y=>P y/\0<s y) w):0<=s w/\(s w=0->∀ i,w i=0):=by
 induction h with
 |zero=>exact⟨by rw[hs.zero];exact Rat.le_refl,fun _ _=>rfl⟩| @add a y z ha hy _ ih =>
  (have h1:=Rat.mul_nonneg ha (Rat.le_of_lt hy.2);rw[hs.cmb];refine⟨by have:=ih.1;grind,fun h0 i=>?_⟩;have h2:a*s y=0:=by have:=ih.1;grind);have h3:s z=0:=by grind
  rcases Rat.mul_eq_zero.1 h2 with h4|h4;{have e9:=ih.2 h3 i;show a*y i+z i=0;rw[h4,e9];grind};{exact absurd hy.2 (by rw[h4];decide)}
theorem zOZ (hs:Lin s){w:Nat->Rat}(h:Cone P w)(h0:s w=0):Cone (Pair P s) w:=by
 obtain⟨z,u,h1,h2,h3⟩:=zGF hs h;have hw:w=fun i=>z i+u i:=funext h3;have hu:s u=0:=by rw[hw,hs.add,zJ1 hs h1] at h0;grind
 have hz:∀ i,u i=0:=by rcases h2 with h2|h2;{exact (zFC hs h2).2 hu};{exact (zFC hs.neg (h2.mono fun w hw=>⟨hw.1,show 0 < -(s w) by have:=hw.2;grind⟩)).2 (by show -(s u)=0;rw[hu];decide)}
 exact h1.to fun i=>by rw[h3 i,hz i];grind
end
structure Canc (M:List Nat) (E:List (Nat->Rat)) (y:Nat->Rat):Prop where
 nn:∀ i,0<=y i
 off:∀ i,i∉M->y i=0
 col:∀ f,f∈E->smL M (fun i=>y i*f i)=0
def cF (M:List Nat) (y:Nat->Rat):List Nat:=M.filter fun i=>decide (y i≠0)
theorem dne {q:Rat}:decide (q≠0)=true↔q≠0:=⟨fun h=>of_decide_eq_true h,fun h=>decide_eq_true h⟩
theorem sY {p q:Nat->Bool}:∀ {M:List Nat},(∀ i,i∈M->q i=true->p i=true)->(M.filter q).length<=(M.filter p).length/\((∃ i,i∈M/\p i=true/\q i=false)->(M.filter q).length<(M.filter p).length)
 |[],_=>⟨Nat.le_refl _,fun⟨i,h,_⟩=>absurd h (by simp)⟩| j::M,h=>by
  have ih:=sY (p:=p) (q:=q) (M:=M) fun i hi=>h i (List.mem_cons_of_mem _ hi);have hj:=h j List.mem_cons_self;cases hq:q j with
  |true =>
   have hp:=hj hq;rw[List.filter_cons_of_pos hq,List.filter_cons_of_pos hp,List.length_cons,List.length_cons];refine⟨by have:=ih.1;omega,fun⟨i,h1,h2,h3⟩=>?_⟩;have:=ih.2 ⟨i,by
    rcases List.mem_cons.1 h1 with rfl|h1;{rw[hq] at h3;cases h3}
    ·exact h1,h2,h3⟩
   omega
  |false =>
   rw[List.filter_cons_of_neg (by rw[hq];decide)];cases hp:p j with
   |true =>
    rw[List.filter_cons_of_pos hp,List.length_cons];have:=ih.1;exact⟨by omega,fun _=>by omega⟩
   |false =>
    rw[List.filter_cons_of_neg (by rw[hp];decide)];refine⟨ih.1,fun⟨i,h1,h2,h3⟩=>ih.2 ⟨i,?_,h2,h3⟩⟩;rcases List.mem_cons.1 h1 with rfl|h1;{rw[hp] at h2;cases h2};{exact h1}
theorem zNX {M:List Nat}{y z:Nat->Rat}(h:∀ i,y i=0->z i=0):(cF M z).length<=(cF M y).length :=
 (sY fun i _ hi=>dne.2 fun e=>dne.1 hi (h i e)).1
theorem zHH {M:List Nat}{y z:Nat->Rat}(h:∀ i,y i=0->z i=0){i:Nat}(hi:i∈M)(h1:y i≠0)(h2:z i=0):(cF M z).length<(cF M y).length :=
 (sY fun i _ hi=>dne.2 fun e=>dne.1 hi (h i e)).2 ⟨i,hi,dne.2 h1,by cases hd:decide (z i≠0) with|false=>rfl|true=>exact absurd h2 (dne.1 hd)⟩
theorem zPV {d y:Nat->Rat}(hy:∀ i,0<=y i):∀ {L:List Nat},(∃ j,j∈L/\0<d j)->∃ t,0<=t/\(∀ i,i∈L->t*d i<=y i)/\∃ i,i∈L/\0<d i/\t*d i=y i
 |[],⟨j,h,_⟩=>absurd h (by simp)| x::L,h=>by
  (have hx0:0<d x->0<=y x*(d x)⁻¹/\y x*(d x)⁻¹*d x=y x:=fun hx=>by have h1:=Rat.inv_mul_cancel (d x) (by grind);exact⟨Rat.mul_nonneg (hy x) (Rat.le_of_lt (Rat.inv_pos.2 hx)),by rw[Rat.mul_assoc,h1];grind⟩);by_cases ht:∃ j,j∈L/\0<d j
  ·obtain⟨t,h1,h2,i,h3,h4,h5⟩:=zPV hy ht;by_cases hx:t*d x<=y x
   ·exact⟨t,h1,fun k hk=>by
     rcases List.mem_cons.1 hk with rfl|hk;{exact hx}
     ·exact h2 k hk,i,List.mem_cons_of_mem _ h3,h4,h5⟩
   ·(have hdx:0<d x:=by by_cases h6:0<d x;{exact h6};{have:=Rat.mul_nonneg h1 (show 0<=-(d x) by grind);have:=hy x;grind});obtain⟨g1,g2⟩:=hx0 hdx;refine⟨_,g1,fun k hk=>?_,x,List.mem_cons_self,hdx,g2⟩;generalize y x*(d x)⁻¹=t' at *
    rcases List.mem_cons.1 hk with rfl|hk;{rw[g2];exact Rat.le_refl}
    ·(have hlt:t'<=t:=by by_cases h7:t'<=t;{exact h7};{have:=Rat.mul_nonneg (show 0<=t'-t by grind) (Rat.le_of_lt hdx);grind});have h8:=h2 k hk;by_cases h9:0<=d k;{have:=Rat.mul_nonneg (show 0<=t-t' by grind) h9;grind};{have:=Rat.mul_nonneg g1 (show 0<=-(d k) by grind);have:=hy k;grind}
  ·(have hx:0<d x:=by obtain⟨j,h1,h2⟩:=h;rcases List.mem_cons.1 h1 with rfl|h1;{exact h2};{exact absurd ⟨j,h1,h2⟩ ht});obtain⟨g1,g2⟩:=hx0 hx;refine⟨_,g1,fun k hk=>?_,x,List.mem_cons_self,hx,g2⟩;generalize y x*(d x)⁻¹=t' at *
   rcases List.mem_cons.1 hk with rfl|hk;{rw[g2];exact Rat.le_refl};{have h9:¬0<d k:=fun h=>ht ⟨k,hk,h⟩;have:=Rat.mul_nonneg g1 (show 0<=-(d k) by grind);have:=hy k;grind}
section
variable {M:List Nat} {E:List (Nat->Rat)}
theorem Canc.sub {y d:Nat->Rat}(h:Canc M E y)(hd:∀ i,y i=0->d i=0)(hc:∀ f,f∈E->smL M (fun i=>d i*f i)=0)(hp:∃ j,j∈M/\0<d j):∃ t,0<t/\Canc M E (fun i=>y i-t*d i)/\(cF M (fun i=>y i-t*d i)).length<(cF M y).length:=by
 obtain⟨t,h1,h2,i,h3,h4,h5⟩:=zPV h.nn hp;have hyi:y i≠0:=fun e=>by rw[hd i e] at h4;exact absurd h4 (by decide)
 have ht:0<t:=by have:=h.nn i;by_cases h0:t=0;{rw[h0] at h5;exact absurd (h5.symm.trans (by grind)) hyi};{grind}
 refine⟨t,ht,⟨fun k=>?_,fun k hk=>by rw[h.off k hk,hd k (h.off k hk)];grind,fun f hf=>?_⟩,zHH (fun k hk=>by rw[hk,hd k hk];grind) h3 hyi (by rw[h5];grind)⟩;{by_cases hk:k∈M;{have:=h2 k hk;grind};{rw[h.off k hk,hd k (h.off k hk)];grind}}
 ·(have e:smL M (fun i=>(y i-t*d i)*f i)=smL M (fun i=>y i*f i)+-t*smL M (fun i=>d i*f i):=by rw[<-v5,<-jC];exact yV fun i _=>by grind);rw[e,h.col f hf,hc f hf];grind
theorem sD (hM:M.Nodup):∀ (n:Nat) {y:Nat->Rat},(cF M y).length<=n->Canc M E y->Cone (fun w=>Canc M E w/\(cF M w).length<=E.length+1) y
 |0,y,hn,h=>.one ⟨h,by omega⟩| n+1,y,hn,h=>by
  by_cases hs:(cF M y).length<=E.length+1;{exact .one ⟨h,hs⟩}
  ·obtain⟨i0,S',hS⟩:∃ i0 S',cF M y=i0::S':=by
    cases hq:cF M y with
    |nil=>rw[hq] at hs;simp at hs| cons a b=>exact⟨a,b,rfl⟩
   have hnd:(cF M y).Nodup:=hM.filter _;rw[hS] at hnd;obtain⟨hn1,hn2⟩:=List.nodup_cons.1 hnd;obtain⟨d,⟨j,hj,hj0⟩,hoff,hcol⟩:=zCJ E S' hn2 (by rw[hS,List.length_cons] at hs;omega);have hin:∀ i,i∈S'->i∈M/\y i≠0:=fun i hi=>by
    (have:i∈cF M y:=by rw[hS];exact List.mem_cons_of_mem _ hi);obtain⟨g1,g2⟩:=List.mem_filter.1 this
    exact⟨g1,dne.1 g2⟩
   have hi0:i0∈M/\y i0≠0:=by
    (have:i0∈cF M y:=by rw[hS];exact List.mem_cons_self);obtain⟨g1,g2⟩:=List.mem_filter.1 this
    exact⟨g1,dne.1 g2⟩
   have hd:∀ i,y i=0->d i=0:=fun i e=>hoff i fun hi=>(hin i hi).2 e;have hc:∀ f,f∈E->smL M (fun i=>d i*f i)=0:=fun f hf=>by
    (have h1:smL (cF M y) (fun i=>d i*f i)=smL M (fun i=>d i*f i):=by unfold cF;rw[r4];refine yV fun i _=>?_;split;{rfl};{rename_i hp;have:y i=0:=Classical.byContradiction fun e=>hp (dne.2 e);rw[hd i this];grind});have h2:=hcol f hf;rw[<-h1,hS,smL,hoff i0 hn1];have h3:smL S' (fun j=>f j*d j)=smL S' (fun i=>d i*f i):=yV fun i _=>Rat.mul_comm _ _;rw[<-h3,h2];grind
   
   have core:∀ d:Nat->Rat,(∀ i,y i=0->d i=0)->(∀ f,f∈E->smL M (fun i=>d i*f i)=0)->d i0=0->(∃ j,j∈M/\0<d j)->Cone (fun w=>Canc M E w/\(cF M w).length<=E.length+1) y:=fun d hd hc h0 hp=>by
    obtain⟨t,ht,g1,g2⟩:=h.sub hd hc hp;have ih:=sD hM n (y:=fun i=>y i-t*d i) (by omega) g1;by_cases hneg:∃ j,j∈M/\d j<0
    ·obtain⟨j,hj,hjn⟩:=hneg;obtain⟨t',ht',k1,k2⟩:=h.sub (d:=fun i=>-d i) (fun i e=>by rw[hd i e];grind) (fun f hf=>by
      (have:smL M (fun i=>-d i*f i)=-1*smL M (fun i=>d i*f i):=by rw[<-v5];exact yV fun i _=>by grind);rw[this,hc f hf];grind) ⟨j,hj,by grind⟩
     (have ih2:=sD hM n (y:=fun i=>y i-t' * -d i) (by omega) k1;have hpos:0<t+t':=by grind);have hiv:(t+t')⁻¹*(t+t')=1:=Rat.inv_mul_cancel _ (by grind)
     have hip:=Rat.inv_pos.2 hpos;generalize (t+t')⁻¹=w at *
     (refine ((ih.scale (b:=t'*w) (Rat.mul_nonneg (Rat.le_of_lt ht') (Rat.le_of_lt hip))).plus (ih2.scale (b:=t*w) (Rat.mul_nonneg (Rat.le_of_lt ht) (Rat.le_of_lt hip)))).to fun i=>?_;have:t'*w*(y i-t*d i)+t*w*(y i-t' * -d i)=w*(t+t')*y i:=by grind);rw[this,hiv];grind
    ·(have hdn:∀ i,0<=d i:=fun i=>by by_cases hi:i∈M;{have:¬d i<0:=fun e=>hneg ⟨i,hi,e⟩;grind};{rw[hd i (h.off i hi)];exact Rat.le_refl});have hC:Canc M E d:=⟨hdn,fun i hi=>hd i (h.off i hi),hc⟩;have ih2:=sD hM n (y:=d) (by have:=zHH (M:=M) hd hi0.1 hi0.2 h0;omega) hC;exact (ih.plus (ih2.scale (Rat.le_of_lt ht))).to fun i=>by grind
   by_cases hp:∃ j,j∈M/\0<d j;{exact core d hd hc (hoff i0 hn1) hp}
   ·refine core (fun i=>-d i) (fun i e=>by rw[hd i e];grind) (fun f hf=>?_) (by rw[hoff i0 hn1];grind) ⟨j,(hin j hj).1,?_⟩
    ·(have:smL M (fun i=>-d i*f i)=-1*smL M (fun i=>d i*f i):=by rw[<-v5];exact yV fun i _=>by grind);rw[this,hc f hf];grind
    {have:¬0<d j:=fun e=>hp ⟨j,(hin j hj).1,e⟩;grind}
def Gen (M:List Nat) (E:List (Nat->Rat)) (P:(Nat->Rat)->Prop):Prop:=∀ y,Canc M E y->Cone P y
theorem zOR {M:List Nat}{f:Nat->Rat}:Lin (fun y=>smL M (fun i=>y i*f i)) :=
 ⟨fun y z=>by rw[<-jC];exact yV fun i _=>by grind,fun a y=>by rw[<-v5];exact yV fun i _=>by grind⟩
theorem Gen.step (hM:M.Nodup){P Q:(Nat->Rat)->Prop}{f:Nat->Rat}(hP:∀ w,P w->∀ i,0<=w i)(h:Gen M E P) (hk:∀ w,Pair P (fun y=>smL M (fun i=>y i*f i)) w->(cF M w).length<=E.length+2->Cone Q w):Gen M (f::E) Q:=fun y hy=>by
 have h1:=sD hM _ (Nat.le_refl _) hy;refine h1.bind fun w hw=>?_;obtain⟨hw,hl⟩:=hw;have hs:=zOR (M:=M) (f:=f);have h2:=zOZ hs (h w ⟨hw.nn,hw.off,fun g hg=>hw.col g (List.mem_cons_of_mem _ hg)⟩) (hw.col f List.mem_cons_self);have hnn:∀ u,Pair P (fun y=>smL M (fun i=>y i*f i)) u->∀ i,0<=u i:=fun u hu i=>by
  cases hu with
  |keep h1 _=>exact hP u h1 i| @pair y z h1 h2 h3 h4 =>
   have g1:=Rat.mul_nonneg (show 0<=-(smL M (fun i=>z i*f i)) by have:smL M (fun i=>z i*f i)<0:=h4;grind) (hP _ h1 i);have g2:=Rat.mul_nonneg (show 0<=smL M (fun i=>y i*f i) from Rat.le_of_lt h3) (hP _ h2 i);show 0<=-(smL M (fun i=>z i*f i))*y i+smL M (fun i=>y i*f i)*z i;grind
 refine (h2.sup (S:=fun i=>w i≠0) hnn fun i hi=>Classical.byContradiction fun e=>hi e).bind fun u hu=>?_;refine hk u hu.1 ?_;have:=zNX (M:=M) (y:=w) (z:=u) fun i e=>hu.2 i fun h=>h e;simp only[List.length_cons] at hl;omega
end
structure FR where
 c:List Int
 fr:Nat
def FR.at' (p:FR) (v:Nat):Int:=p.c.getD v 0
def gcdL:Nat->List Int->Nat
 |d,[]=>d| d,x::r=>gcdL (Nat.gcd x.natAbs d) r
def qY (d:Nat):List Int->List Int×Bool
 |[]=>([],true)| x::r=>if (if 1<d then x.tdiv d else x).natAbs<=1073741824 then ((if 1<d then x.tdiv d else x)::(qY d r).1,(qY d r).2) else ((if 1<d then x.tdiv d else x)::r,false)
def jO (c:List Int):List Int×Bool:=qY (gcdL 0 c) c
def aW:List Nat->Nat->Option Nat
 |[],a=>some a| d::r,a=>if a/Nat.gcd a d*d<=1073741824 then aW r (a/Nat.gcd a d*d) else none
def cfs (f:F) (vars:Nat):List Rat:=(List.range vars).map (fun i:Nat=>co f.ts (i:Int))++[f.c]
def smQ (q:Rat):Bool:=decide (q.num.natAbs<=1073741824/\q.den<=1073741824)
def cD (f:F) (vars:Nat):List Int×Bool :=
 if (cfs f vars).all smQ=true then (match aW ((cfs f vars).map Rat.den) 1 with
  |none=>([],false)| some a=>jO ((cfs f vars).map fun q=>q.num*((a/q.den:Nat):Int)))
 else ([],false)
def u7 (x:Nat):Nat:=if h:x=0 then 0 else x%2+u7 (x/2)
termination_by x
decreasing_by omega
def gF (p q:FR) (v:Nat):List Int:=(List.range p.c.length).map fun n=>p.at' n * -(q.at' v)+q.at' n*p.at' v
def aL (p q:FR) (v:Nat):FR:=⟨(jO (gF p q v)).1,p.fr ||| q.fr⟩
def elC (p q:FR) (v k:Nat):Prop:=0<p.at' v/\q.at' v<0/\u7 (p.fr ||| q.fr)<=k+1
instance (p q:FR) (v k:Nat):Decidable (elC p q v k):=by unfold elC;infer_instance
def elJ (p:FR) (v k:Nat):List FR->List FR->Option (List FR)
 |[],out=>some out| q::r,out=>if elC p q v k then (if (jO (gF p q v)).2=true then elJ p v k r (out++[aL p q v]) else none) else elJ p v k r out
def elI (v k:Nat) (l:List FR):List FR->List FR->Option (List FR)
 |[],out=>some out
 |p::r,out=>match elJ p v k l out with
  |none=>none| some o=>elI v k l r o
def elS (l:List FR) (v k:Nat):Option (List FR):=elI v k l l (l.filter fun p=>decide (p.at' v=0))
def prs (l:List FR) (v:Nat):Nat:=(l.filter fun p=>decide (0<p.at' v)).length*(l.filter fun p=>decide (p.at' v<0)).length
def uE (l:List FR) (done:List Bool):List Nat->Int->Int
 |[],b=>b| v::r,b=>if done.getD v false=false/\(b<0\/prs l v<prs l b.toNat) then uE l done r (v:Int) else uE l done r b
def mH (n:Nat):Nat->List Bool->List FR->Option (List FR)
 |0,_,l=>some l
 |f+1,done,l=>if 20000<prs l (uE l done (List.range n) (-1)).toNat then none else
  (match elS l (uE l done (List.range n) (-1)).toNat (n-f) with
  |none=>none| some m=>mH n f (done.set (uE l done (List.range n) (-1)).toNat true) m)
def zO6:Option Rat->Option Rat->Nat×Rat
 |none,_=>(3,0)| some a,none=>(1,a)| some a,some b=>if b<a then (2,0) else (1,a)
def zGR (v:Rat):Option Rat->Rat
 |none=>v| some a=>if a<v then v else a
def zGT (v:Rat):Option Rat->Rat
 |none=>v| some b=>if v<b then v else b
def FR.lim (p:FR) (n:Nat):Rat:=b8 (-(p.at' (n+1))) (p.at' n)
def uC (n:Nat):List FR->Option Rat->Option Rat->Nat×Rat
 |[],lo,hi=>zO6 lo hi
 |p::r,lo,hi=>if p.at' n=0 then (if p.at' (n+1)<0 then (2,0) else uC n r lo hi) else
  (if 0<p.at' n then uC n r (some (zGR (p.lim n) lo)) hi else uC n r lo (some (zGT (p.lim n) hi)))
def cZ (vars:Nat):List F->Nat->List FR->Option (List FR)
 |[],_,acc=>some acc| f::r,i,acc=>if (cD f vars).2=true then cZ vars r (i+1) (acc++[⟨(cD f vars).1,2^i⟩]) else none
def pV (n:Nat) (fs:List F) (ob:F):List F:=(F.var n).sub ob::((F.var n).sub ob).scale (-1)::fs
def d8 (n:Nat) (fs:List F) (ob:F):Nat×Rat :=
 if 62<fs.length+2 then (0,0) else (match cZ (n+1) (pV n fs ob) 0 [] with
  |none=>(0,0)
  |some l=>(match mH n n (List.replicate n false) l with
   |none=>(0,0)| some m=>uC n m none none))
theorem zEV:∀ (l:List Int) (d:Nat),gcdL d l ∣ d/\∀ x,x∈l->gcdL d l ∣ x.natAbs
 |[],d=>⟨Nat.dvd_refl _,fun x h=>absurd h (by simp)⟩| x::r,d=>by obtain⟨h1,h2⟩:=zEV r (Nat.gcd x.natAbs d);refine⟨Nat.dvd_trans h1 (Nat.gcd_dvd_right _ _),fun y hy=>?_⟩;rcases List.mem_cons.1 hy with rfl|hy;{exact Nat.dvd_trans h1 (Nat.gcd_dvd_left _ _)};{exact h2 y hy}
theorem zD7 {d:Nat}:∀ {l:List Int},(∀ x,x∈l->d ∣ x.natAbs)->(qY d l).2=true ->(qY d l).1.length=l.length/\(∀ n,l.getD n 0=(((if 1<d then d else 1:Nat)):Int)*(qY d l).1.getD n 0)/\∀ x,x∈(qY d l).1->x.natAbs<=1073741824
 |[],_,_=>⟨rfl,fun n=>by simp[qY],fun x h=>absurd h (by simp[qY])⟩| x::r,h,hb=>by
  rw[qY] at hb ⊢;by_cases hx:(if 1<d then x.tdiv d else x).natAbs<=1073741824
  ·rw[if_pos hx] at hb ⊢;obtain⟨h1,h2,h3⟩:=zD7 (d:=d) (l:=r) (fun y hy=>h y (List.mem_cons_of_mem _ hy)) hb;refine⟨by simp only[List.length_cons,h1],fun n=>?_,fun y hy=>?_⟩
   ·cases n with
    |zero =>
     simp only[List.getD_cons_zero];split;{have:=h x List.mem_cons_self;exact (Int.mul_tdiv_cancel' (Int.ofNat_dvd_left.2 this)).symm};{simp}
    |succ n=>simp only[List.getD_cons_succ];exact h2 n
   {rcases List.mem_cons.1 hy with rfl|hy;{exact hx};{exact h3 y hy}}
  {rw[if_neg hx] at hb;cases hb}
theorem zCB {l:List Int}(h:(jO l).2=true):(jO l).1.length=l.length/\(∃ g:Nat,0<g/\∀ n,l.getD n 0=(g:Int)*(jO l).1.getD n 0)/\∀ x,x∈(jO l).1->x.natAbs<=1073741824:=by obtain⟨h1,h2,h3⟩:=zD7 (d:=gcdL 0 l) (l:=l) (zEV l 0).2 h;exact⟨h1,⟨_,by split <;> omega,h2⟩,h3⟩
theorem m7 {d:Nat}:∀ {l:List Int},(qY d l).1.length=l.length
 |[]=>rfl| x::r=>by rw[qY];by_cases hx:(if 1<d then x.tdiv d else x).natAbs<=1073741824;{rw[if_pos hx];simp only[List.length_cons,m7 (l:=r)]};{rw[if_neg hx];simp only[List.length_cons]}
theorem zEL:∀ {l:List Nat} {a m:Nat},0<a->(∀ d,d∈l->0<d)->aW l a=some m->0<m/\a ∣ m/\∀ d,d∈l->d ∣ m
 |[],a,m,ha,_,h=>by rw[aW] at h;obtain rfl:=Option.some.inj h;exact⟨ha,Nat.dvd_refl _,fun d hd=>absurd hd (by simp)⟩
 |d::r,a,m,ha,hd,h=>by
  rw[aW] at h;split at h
  ·have hd0:=hd d List.mem_cons_self;have hg:0<Nat.gcd a d:=Nat.gcd_pos_of_pos_left _ ha;have hq:0<a/Nat.gcd a d:=Nat.div_pos (Nat.le_of_dvd ha (Nat.gcd_dvd_left _ _)) hg;obtain⟨h1,h2,h3⟩:=zEL (l:=r) (Nat.mul_pos hq hd0) (fun e he=>hd e (List.mem_cons_of_mem _ he)) h;have h4:a ∣ a/Nat.gcd a d*d:=by
    obtain⟨e,he⟩:=Nat.gcd_dvd_right a d;refine⟨e,?_⟩;have h5:=Nat.div_mul_cancel (Nat.gcd_dvd_left a d);generalize a/Nat.gcd a d=q at *
    calc q*d=q*(Nat.gcd a d*e):=by rw[<-he]
     _=(q*Nat.gcd a d)*e:=by rw[Nat.mul_assoc]
     _=a*e:=by rw[h5]
   refine⟨h1,Nat.dvd_trans h4 h2,fun e he=>?_⟩;rcases List.mem_cons.1 he with rfl|he;{exact Nat.dvd_trans (Nat.dvd_mul_left _ _) h2};{exact h3 e he}
  {cases h}
theorem zCW {f:F}{n:Nat}:(cfs f n).length=n+1:=by simp[cfs]
theorem zOP (q:Rat):(q.den:Rat)*q=(q.num:Rat):=by
 have h1:=Rat.num_divInt_den q;rw[Rat.divInt_eq_div,Rat.div_def] at h1;have h2:(((q.den:Nat):Int):Rat)=(q.den:Rat):=rfl;rw[h2] at h1;have h3:=Rat.inv_mul_cancel (q.den:Rat) (by
  (intro e;have h8:=q.den_pos;have:q.den=0:=by exact_mod_cast e);omega)
 generalize ((q.den:Nat):Rat)=d at *
 generalize d⁻¹=w at *
 generalize ((q.num:Int):Rat)=n at *
 have h4:d*q=n*(w*d):=by rw[<-h1];grind
 rw[h4,h3];grind
theorem zJB {q:Rat}{a:Nat}(h:q.den ∣ a):((q.num*((a/q.den:Nat):Int):Int):Rat)=(a:Rat)*q:=by
 obtain⟨e,he⟩:=h;have h1:=zOP q;have h2:(a:Rat)=(q.den:Rat)*(e:Rat):=by rw[he];exact Rat.natCast_mul _ _
 have h4:a/q.den=e:=by rw[he];exact Nat.mul_div_cancel_left _ q.den_pos
 rw[h4,h2,Rat.intCast_mul,<-h1];have h3:(((e:Nat):Int):Rat)=(e:Rat):=rfl;rw[h3];grind
theorem zCU {f : F} {n : Nat} (h : (cD f n).2 = true) : (cD f n).1.length = n + 1 ∧ (∀ x, x ∈ (cD f n).1 → x.natAbs ≤ 1073741824) ∧ ∃ k : Rat, 0 < k ∧ ∀ u, (((cD f n).1.getD u 0 : Int) : Rat) = k * (cfs f n).getD u 0 := by
  unfold cD at h ⊢
  split at h
  · rename_i h0
    rw [if_pos h0]
    split at h
    · cases h
    · rename_i a ha
      obtain ⟨h1, ⟨g, hg, h2⟩, h3⟩ := zCB h
      obtain ⟨m1, _, m3⟩ := zEL Nat.zero_lt_one (fun d hd => by
        obtain ⟨q, _, rfl⟩ := List.mem_map.1 hd
        exact q.den_pos) ha
      refine ⟨by rw [h1, List.length_map, zCW], h3, (a : Rat) * (g : Rat)⁻¹, ?_, fun u => ?_⟩
      · exact Rat.mul_pos (by exact_mod_cast m1) (Rat.inv_pos.2 (by exact_mod_cast hg))
      · have h4 := h2 u
        have hg0 : (g : Rat)⁻¹ * (g : Rat) = 1 := Rat.inv_mul_cancel _ (by intro e; have : g = 0 := by exact_mod_cast e
                                                                           omega)
        have h5 : ((((cfs f n).map fun q => q.num * ((a / q.den : Nat) : Int)).getD u 0 : Int) : Rat) = (a : Rat) * (cfs f n).getD u 0 := by
          rw [List.getD_eq_getElem?_getD, List.getElem?_map, List.getD_eq_getElem?_getD]
          cases hu : (cfs f n)[u]? with
          | none => show ((0 : Int) : Rat) = (a : Rat) * 0; rw [Rat.mul_zero]; rfl
          | some q => exact zJB (m3 _ (List.mem_map_of_mem (List.mem_of_getElem? hu)))
        rw [h4, Rat.intCast_mul] at h5
        have h6 : (((g : Nat) : Int) : Rat) = (g : Rat) := rfl
        rw [h6] at h5
        generalize (((jO ((cfs f n).map fun q => q.num * ((a / q.den : Nat) : Int))).1.getD u 0 : Int) : Rat) = x at *
        generalize (cfs f n).getD u 0 = y at *
        have h7 : x = (g : Rat)⁻¹ * (g : Rat) * x := by rw [hg0]; grind
        rw [h7]
        generalize (g : Rat)⁻¹ = w at *
        grind
  · cases h
theorem zAC:∀ (N x:Nat),x<2^N->u7 x=((List.range N).filter fun i=>x.testBit i).length
 |0,x,h=>by
  (have:x=0:=by simpa using h);subst this
  rw[u7];rfl
 |N+1,x,h=>by
  (have ih:=zAC N (x/2) (by rw[Nat.pow_succ] at h;omega);have h1:u7 x=x%2+u7 (x/2):=by by_cases hx:x=0;{subst hx;rw[u7,u7];simp};{rw[u7,dif_neg hx]});rw[h1,ih,List.range_succ_eq_map,List.filter_cons];have h2:((List.map Nat.succ (List.range N)).filter fun i=>x.testBit i)=((List.range N).filter fun i=>(x/2).testBit i).map Nat.succ:=by rw[List.filter_map];congr 1;refine List.filter_congr fun i _=>?_;show x.testBit (i+1)=(x/2).testBit i;rw[Nat.testBit_succ]
  (rw[h2];have h3:x.testBit 0=decide (x%2=1):=by rw[Nat.testBit_zero]);rw[h3]
  by_cases h4:x%2=1;{rw[if_pos (decide_eq_true h4),List.length_cons,List.length_map,h4];omega};{rw[if_neg (by rw[decide_eq_false h4];decide),List.length_map];omega}
structure FOk (N:Nat) (r:Nat->Nat->Rat) (W:Nat) (E:List Nat) (p:FR) (y:Nat->Rat):Prop where
 len:p.c.length=W
 can:Canc (List.range N) (E.map fun v=>fun i=>r i v) y
 col:∀ u,((p.at' u:Int):Rat)=smL (List.range N) (fun i=>y i*r i u)
 bit:∀ i,p.fr.testBit i=decide (y i≠0)
 lt:p.fr<2^N
 ab:∀ x,x∈p.c->x.natAbs<=1073741824
structure FLs (N:Nat) (r:Nat->Nat->Rat) (W:Nat) (E:List Nat) (l:List FR):Prop where
 ok:∀ p,p∈l->∃ y,FOk N r W E p y
 gen:Gen (List.range N) (E.map fun v=>fun i=>r i v) (fun y=>∃ p,p∈l/\FOk N r W E p y)
theorem zCM {p:FR}{v k:Nat}:∀ {l out o:List FR},elJ p v k l out=some o->(∀ x,x∈out->x∈o)/\(∀ q,q∈l->elC p q v k->aL p q v∈o/\(jO (gF p q v)).2=true)/\∀ x,x∈o->x∈out\/∃ q,q∈l/\elC p q v k/\x=aL p q v/\(jO (gF p q v)).2=true
 |[],out,o,h=>by rw[elJ] at h;obtain rfl:=Option.some.inj h;exact⟨fun x h=>h,fun q hq=>absurd hq (by simp),fun x h=>.inl h⟩
 |q::r,out,o,h=>by rw[elJ] at h;split at h;{rename_i hc;split at h;{rename_i hr;obtain⟨h1,h2,h3⟩:=zCM h;refine⟨fun x hx=>h1 x (List.mem_append_left _ hx),fun q' hq' hc'=>?_,fun x hx=>?_⟩;{rcases List.mem_cons.1 hq' with rfl|hq';{exact⟨h1 _ (List.mem_append_right _ List.mem_cons_self),hr⟩};{exact h2 q' hq' hc'}};{rcases h3 x hx with hx|⟨q',a,b,c,d⟩;{rcases List.mem_append.1 hx with hx|hx;{exact .inl hx};{exact .inr ⟨q,List.mem_cons_self,hc,by simpa using hx,hr⟩}};{exact .inr ⟨q',List.mem_cons_of_mem _ a,b,c,d⟩}}};{cases h}};{rename_i hc;obtain⟨h1,h2,h3⟩:=zCM h;refine⟨h1,fun q' hq' hc'=>?_,fun x hx=>?_⟩;{rcases List.mem_cons.1 hq' with rfl|hq';{exact absurd hc' hc};{exact h2 q' hq' hc'}};{rcases h3 x hx with hx|⟨q',a,b,c,d⟩;{exact .inl hx};{exact .inr ⟨q',List.mem_cons_of_mem _ a,b,c,d⟩}}}
theorem zCO {v k:Nat}{l:List FR}:∀ {ps out o:List FR},elI v k l ps out=some o->(∀ x,x∈out->x∈o)/\(∀ p,p∈ps->∀ q,q∈l->elC p q v k->aL p q v∈o/\(jO (gF p q v)).2=true)/\∀ x,x∈o->x∈out\/∃ p q,p∈ps/\q∈l/\elC p q v k/\x=aL p q v/\(jO (gF p q v)).2=true
 |[],out,o,h=>by rw[elI] at h;obtain rfl:=Option.some.inj h;exact⟨fun x h=>h,fun q hq=>absurd hq (by simp),fun x h=>.inl h⟩
 |p::r,out,o,h=>by
  rw[elI] at h;cases hj:elJ p v k l out with
  |none=>rw[hj] at h;cases h
  |some o1 =>
   rw[hj] at h;obtain⟨g1,g2,g3⟩:=zCM hj;obtain⟨h1,h2,h3⟩:=zCO (ps:=r) h;refine⟨fun x hx=>h1 x (g1 x hx),fun p' hp' q hq hc=>?_,fun x hx=>?_⟩;{rcases List.mem_cons.1 hp' with rfl|hp';{exact⟨h1 _ (g2 q hq hc).1,(g2 q hq hc).2⟩};{exact h2 p' hp' q hq hc}};{rcases h3 x hx with hx|⟨p',q',a,b⟩;{rcases g3 x hx with hx|⟨q',a,b⟩;{exact .inl hx};{exact .inr ⟨p,q',List.mem_cons_self,a,b⟩}};{exact .inr ⟨p',q',List.mem_cons_of_mem _ a,b⟩}}
theorem zBO {p q:FR}{v:Nat}(u:Nat)(h:p.c.length=q.c.length):(gF p q v).getD u 0=p.at' u * -(q.at' v)+q.at' u*p.at' v:=by
 unfold gF;rw[List.getD_eq_getElem?_getD,List.getElem?_map];by_cases hu:u<p.c.length;{rw[List.getElem?_range hu];rfl}
 ·(rw[List.getElem?_eq_none (by rw[List.length_range];omega)];have h1:p.at' u=0:=by unfold FR.at';rw[List.getD_eq_getElem?_getD,List.getElem?_eq_none (by omega)];rfl);have h2:q.at' u=0:=by unfold FR.at';rw[List.getD_eq_getElem?_getD,List.getElem?_eq_none (by omega)];rfl
  rw[h1,h2];simp
theorem zG1 {a y:Rat}(ha:0<a)(h:a*y=0):y=0:=by rcases Rat.mul_eq_zero.1 h with h|h;{rw[h] at ha;exact absurd ha (by decide)};{exact h}
theorem zOO {a b y z:Rat}(ha:0<a)(hb:0<b)(hy:0<=y)(hz:0<=z):a*y+b*z=0↔y=0/\z=0:=by have b1:=Rat.mul_nonneg (Rat.le_of_lt ha) hy;have b2:=Rat.mul_nonneg (Rat.le_of_lt hb) hz;refine⟨fun h=>⟨zG1 ha (by grind),zG1 hb (by grind)⟩,fun⟨h1,h2⟩=>by rw[h1,h2];grind⟩
theorem zPX {a b g y z:Rat}(ha:0<a)(hb:0<b)(hg:0<g)(hy:0<=y)(hz:0<=z):(decide (y≠0) || decide (z≠0))=decide (g*(a*y+b*z)≠0):=by rw[Bool.eq_iff_iff,Bool.or_eq_true,dne,dne,dne];have h:=zOO ha hb hy hz;constructor;{intro h1 h2;obtain⟨h3,h4⟩:=h.1 (zG1 hg h2);rcases h1 with h1|h1;{exact h1 h3};{exact h1 h4}};{intro h1;by_cases hy0:y=0;{right;intro hz0;exact h1 (by rw[h.2 ⟨hy0,hz0⟩];grind)};{exact .inl hy0}}
section
variable {N W:Nat} {r:Nat->Nat->Rat} {E:List Nat}
theorem FOk.keep {p:FR}{y:Nat->Rat}{v:Nat}(h:FOk N r W E p y)(h0:p.at' v=0):FOk N r W (v::E) p y :=
 ⟨h.len,⟨h.can.nn,h.can.off,fun f hf=>by
  rcases List.mem_cons.1 hf with rfl|hf;{show smL (List.range N) (fun i=>y i*r i v)=0;rw[<-h.col v,h0];rfl}
  ·exact h.can.col f hf⟩,h.col,h.bit,h.lt,h.ab⟩
theorem FOk.pair {p q:FR}{y z:Nat->Rat}{v:Nat}(hp:FOk N r W E p y)(hq:FOk N r W E q z)(h1:0<p.at' v)(h2:q.at' v<0)(hr:(jO (gF p q v)).2=true):∃ g:Rat,0<g/\FOk N r W (v::E) (aL p q v) (fun i=>g*(-((q.at' v:Int):Rat)*y i+((p.at' v:Int):Rat)*z i)):=by
 obtain⟨e1,⟨g,hg,e2⟩,e3⟩:=zCB hr;have a1:(0:Rat)<((p.at' v:Int):Rat):=by exact_mod_cast h1
 have a2:(0:Rat) < -((q.at' v:Int):Rat):=by
  (have:((q.at' v:Int):Rat)<0:=by exact_mod_cast h2);grind
 have hgi:(0:Rat)<(g:Rat)⁻¹:=Rat.inv_pos.2 (by exact_mod_cast hg);have hgm:(g:Rat)⁻¹*(g:Rat)=1:=Rat.inv_mul_cancel _ (by
  (intro e;have:g=0:=by exact_mod_cast e);omega)
 have hlin:∀ (w:Rat) (f:Nat->Rat),smL (List.range N) (fun i=>w*(-((q.at' v:Int):Rat)*y i+((p.at' v:Int):Rat)*z i)*f i)=w*(-((q.at' v:Int):Rat)*smL (List.range N) (fun i=>y i*f i)+((p.at' v:Int):Rat)*smL (List.range N) (fun i=>z i*f i)):=fun w f=>by rw[<-v5,<-v5,<-jC,<-v5];exact yV fun i _=>by grind
 have hcol:∀ u,((((aL p q v).at' u:Int)):Rat)=smL (List.range N) (fun i=>(g:Rat)⁻¹*(-((q.at' v:Int):Rat)*y i+((p.at' v:Int):Rat)*z i)*r i u):=fun u=>by
  rw[hlin,<-hp.col u,<-hq.col u];have e4:=e2 u;rw[zBO u (by rw[hp.len,hq.len])] at e4;have e5:((g:Nat):Rat)*(((aL p q v).at' u:Int):Rat)=((p.at' u:Int):Rat) * -((q.at' v:Int):Rat)+((q.at' u:Int):Rat)*((p.at' v:Int):Rat):=by
   (have:(((p.at' u * -(q.at' v)+q.at' u*p.at' v:Int)):Rat)=(((g:Int)*(jO (gF p q v)).1.getD u 0:Int):Rat):=by rw[e4]);rw[Rat.intCast_add,Rat.intCast_mul,Rat.intCast_mul,Rat.intCast_mul,Rat.intCast_neg] at this
   exact this.symm
  generalize ((((aL p q v).at' u:Int)):Rat)=x at *
  (have:x=(g:Rat)⁻¹*(g:Rat)*x:=by rw[hgm];grind);rw[this,Rat.mul_assoc,e5]
  grind
 refine⟨(g:Rat)⁻¹,hgi,⟨?_,⟨fun i=>?_,fun i hi=>by rw[hp.can.off i hi,hq.can.off i hi];grind,fun f hf=>?_⟩,hcol,fun i=>?_,?_,e3⟩⟩;{show (jO (gF p q v)).1.length=W;rw[e1];unfold gF;rw[List.length_map,List.length_range,hp.len]};{have b1:=Rat.mul_nonneg (Rat.le_of_lt a2) (hp.can.nn i);have b2:=Rat.mul_nonneg (Rat.le_of_lt a1) (hq.can.nn i);exact Rat.mul_nonneg (Rat.le_of_lt hgi) (by grind)};{rcases List.mem_cons.1 hf with rfl|hf;{show smL (List.range N) (fun i=>(g:Rat)⁻¹*(-((q.at' v:Int):Rat)*y i+((p.at' v:Int):Rat)*z i)*r i v)=0;rw[hlin,<-hp.col v,<-hq.col v];grind};{rw[hlin,hp.can.col f hf,hq.can.col f hf];grind}};{show (p.fr ||| q.fr).testBit i=_;rw[Nat.testBit_or,hp.bit,hq.bit];exact zPX a2 a1 hgi (hp.can.nn i) (hq.can.nn i)};{exact Nat.or_lt_two_pow hp.lt hq.lt}
theorem FLs.step {l m:List FR}{v k:Nat}(h:FLs N r W E l)(hk:k=E.length+1)(he:elS l v k=some m):FLs N r W (v::E) m:=by
 unfold elS at he;obtain⟨h1,h2,h3⟩:=zCO he;refine⟨fun p hp=>?_,?_⟩;{rcases h3 p hp with hp|⟨a,b,ha,hb,hc,rfl,hr⟩;{obtain⟨g1,g2⟩:=List.mem_filter.1 hp;obtain⟨y,hy⟩:=h.ok p g1;exact⟨y,hy.keep (of_decide_eq_true g2)⟩};{obtain⟨y,hy⟩:=h.ok a ha;obtain⟨z,hz⟩:=h.ok b hb;obtain⟨g,_,hg⟩:=hy.pair hz hc.1 hc.2.1 hr;exact⟨_,hg⟩}}
 ·refine Gen.step (P:=fun y=>∃ p,p∈l/\FOk N r W E p y) (f:=fun i=>r i v) List.nodup_range (fun w ⟨p,_,hp⟩ i=>hp.can.nn i) h.gen fun w hw hl=>?_;rw[List.length_map] at hl;cases hw with
  |keep hw h0 =>
   obtain⟨p,hp,hy⟩:=hw;have h0':p.at' v=0:=by
    have:=hy.col v;rw[show smL (List.range N) (fun i=>w i*r i v)=0 from h0] at this
    exact_mod_cast this
   exact .one ⟨p,h1 p (List.mem_filter.2 ⟨hp,decide_eq_true h0'⟩),hy.keep h0'⟩
  | @pair y z hy hz h4 h5 =>
   obtain⟨p,hp,hy⟩:=hy;obtain⟨q,hq,hz⟩:=hz;have e1:=hy.col v;have e2:=hz.col v;have c1:0<p.at' v:=by
    have:(0:Rat)<((p.at' v:Int):Rat):=by rw[e1];exact h4
    exact_mod_cast this
   have c2:q.at' v<0:=by
    have:((q.at' v:Int):Rat)<0:=by rw[e2];exact h5
    exact_mod_cast this
   rw[<-e1,<-e2] at hl ⊢
   
   have hsup:u7 (p.fr ||| q.fr)<=k+1:=by
    (rw[zAC N _ (Nat.or_lt_two_pow hy.lt hz.lt)];refine Nat.le_trans ?_ (show (cF (List.range N) fun i=>-((q.at' v:Int):Rat)*y i+((p.at' v:Int):Rat)*z i).length<=k+1 by rw[hk];exact hl);unfold cF;refine (sY fun i _ hi=>?_).1;rw[Nat.testBit_or,hy.bit,hz.bit] at hi;have a1:(0:Rat)<((p.at' v:Int):Rat):=by exact_mod_cast c1);have a2:(0:Rat) < -((q.at' v:Int):Rat):=by
     (have:((q.at' v:Int):Rat)<0:=by exact_mod_cast c2);grind
    rw[zPX a2 a1 (show (0:Rat)<1 by decide) (hy.can.nn i) (hz.can.nn i)] at hi;refine dne.2 fun h=>dne.1 hi (by have h:-((q.at' v:Int):Rat)*y i+((p.at' v:Int):Rat)*z i=0:=h;rw[h];grind)
   have hc:elC p q v k:=⟨c1,c2,hsup⟩;obtain⟨hin,hred⟩:=h2 p hp q hq hc;obtain⟨g,hg,hf⟩:=hy.pair hz c1 c2 hred;have:=(Cone.one (P:=fun y=>∃ p,p∈m/\FOk N r W (v::E) p y) ⟨_,hin,hf⟩).scale (b:=g⁻¹) (Rat.le_of_lt (Rat.inv_pos.2 hg));refine this.to fun i=>?_;have hgm:g⁻¹*g=1:=Rat.inv_mul_cancel _ (by intro e;rw[e] at hg;exact absurd hg (by decide));rw[<-Rat.mul_assoc,hgm];grind
end
end Go.Proofs.YtfainocfaddbdaaGreat
