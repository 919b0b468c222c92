/- A part of the proof: KpM. -/
import Derived.Test.YtaeaffgjdcigoaaGreatD39
set_option linter.all false
namespace Go.Proofs.YtaeaffgjdcigoaaGreat
open Go
theorem H1 (x y:y5)(h:x.1<y.1):∀ l,n7 x (l++[y])=n7 x l++[y]
 |[]=>by show (if x.1<y.1 then x::[y] else y::n7 x [])=[x]++[y];grind| z::t=>by rw[Wm];unfold n7;split;{rfl};{rw[H1 x y h t];rfl}
def Q4 (x:y5):∀ l:List y5,(∀ z,z∈l->¬x.1<z.1)->n7 x l=l++[x]
 |[],_=>rfl| z::t,h=>by unfold n7;rw[if_neg (h z wB),Q4 x t (λw hw=>h w (x9 _ hw))];rfl
def dsc (l:List y5):Prop:=l.Pairwise λa b=>b.1<a.1
def CO {a b:Int}:cI a b<0↔a<b:=by grind [cI]
def XH {x y:y5}:∀ {l:List y5},y∈sO x l->y=x\/y∈l
 |[],h=>by grind [sO]| z::t,h=>by unfold sO at h;split at h;{rcases yM.1 h with g|g;{grind};{have:=XH g;grind}};{grind}
def Q5 {x:y5}:∀ {c:List y5},dsc c->(∀ y,y∈c->x.1≠y.1)->n7 x c.reverse=(sO x c).reverse/\dsc (sO x c)
 |[],_,_=>⟨rfl,by grind [sO,dsc]⟩| z::t,h,hne=>by
  obtain⟨h1,h2⟩:=sK.1 h;obtain⟨i1,i2⟩:=Q5 (x:=x) h2 (λy hy=>hne y (x9 _ hy));unfold sO;split
  ·rename_i hlt;have hlt':=CO.1 hlt;refine⟨by grind [H1],sK.2 ⟨λy hy=>?_,i2⟩⟩;rcases XH hy with rfl|g
   all_goals grind
  {rename_i hlt;have hge:¬x.1<z.1:=λg=>hlt (CO.2 g);have hzx:=hne z wB;refine⟨?_,sK.2 ⟨λy hy=>?_,h⟩⟩;{rw[List.reverse_cons (a:=x)];refine Q4 x _ λw hw=>?_;grind};grind}
def HP:∀ (l c:List y5),dsc c->(∀ x,x∈l->∀ y,y∈c->x.1≠y.1)->l.Pairwise (λa b=>a.1≠b.1) ->l.foldl fX c.reverse=(l.foldl (λa x=>sO x a) c).reverse/\dsc (l.foldl (λa x=>sO x a) c)
 |[],c,h,_,_=>⟨rfl,h⟩| x::r,c,h,hne,hp=>by
  obtain⟨p1,p2⟩:=sK.1 hp;have hx:=hne x wB;obtain⟨i1,i2⟩:=Q5 h hx;have hno:x∉c.reverse:=λg=>hx x (List.mem_reverse.1 g) rfl;rw[Fq,Fq,show fX c.reverse x=(sO x c).reverse by unfold fX;grind];refine HP r (sO x c) i2 (λz hz y hy=>?_) p2;rcases XH hy with rfl|g
  all_goals grind
def Ap {l:List y5}(h:l.Pairwise (λa b=>a.1≠b.1)):mkR l=mkP l/\Xj (cT l).reverse:=by
 obtain⟨h1,h2⟩:=HP l [] List.Pairwise.nil (λx _ y hy=>absurd hy (by simp)) h;have e:l.foldl fX []=(cT l).reverse:=h1;refine⟨by grind [mkR,mkP],?_⟩;have h3:(cT l).reverse.Pairwise (λa b=>a.1<b.1):=List.pairwise_reverse.2 h2;generalize (cT l).reverse=k at h3;clear h1 h2 e h;induction k with
 |nil=>trivial| cons a r ih =>
  obtain⟨q1,q2⟩:=sK.1 h3;cases r with
  |nil=>trivial| cons b t=>exact⟨λe=>by grind,ih q2⟩
def Jx (M:List Bool) (i:Nat):List Int:=((List.range i).filter λk=>M.getD k false).map λk:Nat=>(k:Int)
def Qh (M:List Bool)(i:Nat):Jx M (i+1)=Jx M i++(if M.getD i false=true then [(i:Int)] else []):=by unfold Jx;rw[List.range_succ,List.filter_append,gV,List.filter_cons,List.filter_nil];grind
def So {M:List Bool}{i:Nat}{x:Int}(h:x∈Jx M i):0<=x/\x<i/\M.getD x.toNat false=true:=by unfold Jx at h;grind
def KY {M:List Bool}{j:Nat}(hj:M.getD j false=true):∀ {n:Nat},j<n->∃ B,Jx M n=Jx M j++(j:Int)::B
 |n+1,h=>by rw[Qh];by_cases e:n=j;{simp_all};{obtain⟨B,hB⟩:=KY hj (n:=n) oM;rw[hB];exact⟨B++_,by rw[KN,Wm]⟩}
def HZ {x:Int}:∀ {A B:List Int},(∀ y,y∈A->y≠x)->ixI (A++x::B) x=A.length
 |[],B,_=>by show (if decide (x=x)=true then (0:Int) else _)=_;grind| a::A,B,h=>by have ih:=HZ (B:=B) (λy hy=>h y (x9 _ hy));have ha:=h a wB;show (if decide (x=a)=true then (0:Int) else if ixI (A++x::B) x<0 then -1 else ixI (A++x::B) x+1)=_;grind
def D4 {x:Int}:∀ {l:List Int},x∉l->ixI l x=-1
 |[],_=>rfl| a::r,h=>by have ih:=D4 (x:=x) (l:=r) (λg=>h (x9 _ g));show (if decide (x=a)=true then (0:Int) else if ixI r x<0 then -1 else ixI r x+1)=_;grind
structure To (M:List Bool) (n i:Nat) (to:List Int):Prop where
 len:to.length=n
 at_:∀ j:Nat,j<n->to[j]?=some (if j<i/\M.getD j false=true then ((Jx M j).length:Int)+1 else 0)
theorem To.rn {M:List Bool}{i:Nat}{to:List Int}(h:To M M.length i to)(hi:i<=M.length){x:Int}(hx:x<=i):rnI to x=WK (w9 M) x:=by
 unfold rnI WK;rw[h.len];by_cases hx0:0<x
 ·(rw[if_pos ⟨hx0,by omega⟩,if_pos hx0,h.at_ (x-1).toNat oM];show (if (x-1).toNat<i/\M.getD (x-1).toNat false=true then ((Jx M (x-1).toNat).length:Int)+1 else 0)=_;have ex:x-1=((x-1).toNat:Int):=by omega);by_cases hm:M.getD (x-1).toNat false=true
  ·(rw[if_pos ⟨by omega,hm⟩];obtain⟨B,hB⟩:=KY hm (n:=M.length) oM;have eI:w9 M=Jx M (x-1).toNat++(x-1)::B:=by rw[ex];exact hB);rw[eI,HZ (λy hy=>by have:=So hy;omega)]
  {have e0:ixI (w9 M) (x-1)=-1:=D4 (λg=>hm (So (i:=M.length) g).2.2);grind}
 omega
theorem To.pf {M:List Bool}{i:Nat}{to:List Int}(h:To M M.length i to)(hi:i<=M.length){l:List Mult}(hl:∀ m,m∈l->m.row.lo<=i/\m.row.hi<=i):l.map (rnM to)=l.map (rnP (w9 M)):=by refine List.map_congr_left λm hm=>?_;obtain⟨h1,h2⟩:=hl m hm;unfold rnM rnP;rw[h.rn hi h1,h.rn hi h2]
def Uk {s:Scp}{M:List Bool}(hM:M.length=s.lems.length)(hb:s.backs):∀ (r:List Lem) (i:Nat) (acc:List Lem) (to:List Int),s.lems.drop i=r->i<=s.lems.length->To M M.length i to->acc=((Jx M i).map s.lemA).map (rnL (w9 M)) ->(rgo M r i acc to).1=((w9 M).map s.lemA).map (rnL (w9 M))/\To M M.length M.length (rgo M r i acc to).2
 |[],i,acc,to,hd,hi,ht,ha=>by
  (have:i=M.length:=by have:=congrArg List.length hd;grind);subst this;exact⟨ha,ht⟩
 |m::r,i,acc,to,hd,hi,ht,ha=>by
  (have hlt:i<s.lems.length:=by grind);have hm:s.lems[i]?=some m:=by have:=congrArg (λl=>l[0]?) hd;grind
  have hd':s.lems.drop (i+1)=r:=by have:=congrArg List.tail hd;simpa using this
  (unfold rgo;have hal:acc.length=(Jx M i).length:=by grind);split
  ·(rename_i e;have hA:s.lemA (i:Int)=m:=by unfold Scp.lemA;grind);refine Uk hM hb r (i+1) _ _ hd' oM ⟨by rw[KS,ht.len],λj hj=>?_⟩ ?_
   {rw[List.getElem?_set];by_cases ej:i=j;{subst ej;rw[if_pos rfl,if_pos (by rw[ht.len];omega),if_pos ⟨by omega,e⟩,hal]};{rw[if_neg ej,ht.at_ j hj];grind}};{rw[Qh,if_pos e,gV,gV,ha];congr 1;show _=[rnL (w9 M) (s.lemA (i:Int))];rw[hA];unfold rnL;rw[ht.pf oM (hb i m hm)]}
  {rename_i e;refine Uk hM hb r (i+1) _ _ hd' oM ⟨ht.len,λj hj=>?_⟩ ?_;{rw[ht.at_ j hj];grind};{rw[Qh,if_neg e,kF,ha]}}
def JM {s:Scp}{em:Bool}{l:List Mult}(hM:(s.marks l).2.length=s.lems.length)(hb:s.backs)(hl:∀ m,m∈l->m.row.lo<=s.lems.length/\m.row.hi<=s.lems.length)(hu:∀ ls,lgo s (w9 (s.marks l).1) []=some ls->mkR ls=mkP ls):aU s em l=dH s em l:=by obtain⟨r1,r2⟩:=Uk hM hb s.lems 0 [] (List.replicate s.lems.length 0) rfl (yY _) ⟨by simp[hM],λj hj=>by grind⟩ rfl;have r3:=r2.pf (yC _) (l:=l) (λm hm=>by grind);unfold aU dH;grind
end Go.Proofs.YtaeaffgjdcigoaaGreat
