/- A part of the proof: KpB, KpC, KpD, KcE, KcF, KcA, KcC. -/
import Derived.Test.YtaeaffgjdcigoaaGreatW21
import Derived.Test.YtaeaffgjdcigoaaGreatW31
import Derived.Test.YtaeaffgjdcigoaaGreatW22
import Derived.Test.YtaeaffgjdcigoaaGreatW25
import Derived.Test.YtaeaffgjdcigoaaGreatW30
set_option linter.all false
namespace Go.Proofs.YtaeaffgjdcigoaaGreat
open Go
set_option maxRecDepth 100000
set_option maxHeartbeats 4000000
def Scp.fst (s:Scp) (kind unit:Int):Int:=v6 (λd=>decide (d.k=kind)&&(decide (d.i=unit)&&d.fits s.q)) s.path
def Scp.rowD (s:Scp) (r:Row):Int :=
 if r.k=4 then r.i else if (r.k=7\/r.k=8)/\r.lo=0 then s.fst 1 r.i else if (r.k=9\/r.k=10)/\r.hi=0 then s.fst 2 r.i else -1
def bK (d:Int) (D:List Int):List Int:=if 0<=d then d::D else D
abbrev Ust:=List Int×List Int
def Scp.pfn (s:Scp) (n:Int):List Mult:=((s.lems[n.toNat]?).map Lem.pf).getD []
def dK (s:Scp) (U:List Mult->Ust->Ust) (n:Int) (st:Ust):Ust:=if 0<=n/\n<s.lems.length/\n∉st.2 then U (s.pfn n) (st.1,n::st.2) else st
def ZF (s:Scp) (U:List Mult->Ust->Ust):List Mult->Ust->Ust
 |[],st=>st| m::r,st=>ZF s U r (dK s U (m.row.hi-1) (dK s U (m.row.lo-1) (bK (s.rowD m.row) st.1,st.2)))
def rJ (s:Scp):Nat->List Mult->Ust->Ust
 |0=>ZF s (λ_ st=>st)| f+1=>ZF s (rJ s f)
def um (s:Scp) (M:List Int):Nat:=((List.range s.lems.length).filter λn:Nat=>decide ((n:Int)∉M)).length
def UG {s:Scp}{M:List Int}{n:Int}(h0:0<=n)(h1:n<s.lems.length)(h:n∉M):um s (n::M)+1=um s M:=by
 unfold um;obtain⟨k,rfl⟩:∃ k:Nat,n=k:=⟨n.toNat,by omega⟩;have hk:k<s.lems.length:=by omega
 have key:∀ (l:List Nat),l.Nodup->k∈l->(l.filter λx:Nat=>decide ((x:Int)∉(k:Int)::M)).length+1=(l.filter λx:Nat=>decide ((x:Int)∉M)).length:=by
  intro l;induction l with
  |nil=>grind| cons a r ih =>
   intro hn hm;obtain⟨g1,g2⟩:=Zz.1 hn;rcases yG.1 hm with rfl|hm;{grind [List.filter_congr]};grind
 grind
def usesM (s:Scp) (l:List Mult) (n:Int):Prop:=0<=n/\n<s.lems.length/\∃ m,m∈l/\(m.row.lo-1=n\/m.row.hi-1=n)
def usesD (s:Scp) (l:List Mult) (k:Int):Prop:=0<=k/\∃ m,m∈l/\s.rowD m.row=k
inductive Reach (s:Scp) (l:List Mult):Int->Prop
 |base {n} (h:usesM s l n):Reach s l n
 |step {k n} (h:Reach s l k) (h2:usesM s (s.pfn k) n):Reach s l n
def cK (s:Scp) (l:List Mult) (k:Int):Prop:=usesD s l k\/∃ n,Reach s l n/\usesD s (s.pfn n) k
theorem usesM.sub {s:Scp}{l l':List Mult}{n:Int}(h:usesM s l n)(hs:∀ m,m∈l->m∈l'):usesM s l' n:=by obtain⟨h1,h2,m,h3,h4⟩:=h;exact⟨h1,h2,m,hs m h3,h4⟩
theorem usesD.sub {s:Scp}{l l':List Mult}{n:Int}(h:usesD s l n)(hs:∀ m,m∈l->m∈l'):usesD s l' n:=by obtain⟨h1,m,h3,h4⟩:=h;exact⟨h1,m,hs m h3,h4⟩
theorem Reach.sub {s:Scp}{l l':List Mult}{n:Int}(h:Reach s l n)(hs:∀ m,m∈l->m∈l'):Reach s l' n:=by
 induction h with
 |base h=>exact .base (h.sub hs)| step _ h2 ih=>exact .step ih h2
theorem Reach.thru {s:Scp}{l:List Mult}{k n:Int}(hk:Reach s l k)(h:Reach s (s.pfn k) n):Reach s l n:=by
 induction h with
 |base h=>exact .step hk h| step _ h2 ih=>exact .step ih h2
theorem Reach.rng {s:Scp}{l:List Mult}{n:Int}(h:Reach s l n):0<=n/\n<s.lems.length:=by
 cases h with
 |base h=>exact⟨h.1,h.2.1⟩| step _ h=>exact⟨h.1,h.2.1⟩
structure Run (s:Scp) (l:List Mult) (a b:Ust):Prop where
 mM:∀ n,n∈a.2->n∈b.2
 mD:∀ k,k∈a.1->k∈b.1
 sM:∀ n,n∈b.2->n∈a.2\/Reach s l n
 sD:∀ k,k∈b.1->k∈a.1\/cK s l k
 cM:∀ n,usesM s l n->n∈b.2
 cD:∀ k,usesD s l k->k∈b.1
 nM:∀ k,k∈b.2->k∈a.2\/((∀ n,usesM s (s.pfn k) n->n∈b.2)/\∀ n,usesD s (s.pfn k) n->n∈b.1)
def mZ {s:Scp}{U:List Mult->Ust->Ust}{f:Nat}(hU:∀ l a,um s a.2<f->Run s l a (U l a)){n:Int}{a:Ust}(hf:um s a.2<=f):(∀ k,k∈a.2->k∈(dK s U n a).2)/\(∀ k,k∈a.1->k∈(dK s U n a).1)/\(0<=n->n<s.lems.length->n∈(dK s U n a).2) /\ (∀ k,k∈(dK s U n a).2->k∈a.2\/(0<=n/\n<s.lems.length/\(k=n\/Reach s (s.pfn n) k)))/\(∀ k,k∈(dK s U n a).1->k∈a.1\/(0<=n/\n<s.lems.length/\cK s (s.pfn n) k)) /\ (∀ k,k∈(dK s U n a).2->k∈a.2\/((∀ j,usesM s (s.pfn k) j->j∈(dK s U n a).2)/\∀ j,usesD s (s.pfn k) j->j∈(dK s U n a).1)):=by
 unfold dK;split
 ·rename_i h;obtain⟨h0,h1,h2⟩:=h;have hu:=UG h0 h1 h2;have R:=hU (s.pfn n) (a.1,n::a.2) (by grind);refine⟨λk hk=>R.mM k (wJ _ hk),λk hk=>R.mD k hk,λ_ _=>R.mM n wI,λk hk=>?_,λk hk=>?_,λk hk=>?_⟩
  ·rcases R.sM k hk with g|g
   all_goals grind
  ·rcases R.sD k hk with g|g
   all_goals grind
  {rcases R.nM k hk with g|g;{rcases yG.1 g with rfl|g;{exact .inr ⟨R.cM,R.cD⟩};grind};grind}
 grind
def eY {s:Scp}{M M':List Int}(h:∀ n,n∈M->n∈M'):um s M'<=um s M:=by unfold um;rw[<-List.countP_eq_length_filter,<-List.countP_eq_length_filter];exact List.countP_mono_left λx _ hx=>by grind
def Xj {s:Scp}{U:List Mult->Ust->Ust}{f:Nat}(hU:∀ l a,um s a.2<f->Run s l a (U l a)):∀ (l:List Mult) (a:Ust),um s a.2<=f->Run s l a (ZF s U l a)
 |[],a,_=>⟨λ_ h=>h,λ_ h=>h,λ_ h=>.inl h,λ_ h=>.inl h,λn h=>by obtain⟨_,_,m,h,_⟩:=h;grind,λn h=>by obtain⟨_,m,h,_⟩:=h;grind,λ_ h=>.inl h⟩| m::r,a,hf=>by
  (unfold ZF;obtain⟨b,hb⟩:∃ b:Ust,b=(bK (s.rowD m.row) a.1,a.2):=⟨_,rfl⟩;have b1:∀ k,k∈a.1->k∈b.1:=λk hk=>by grind [bK]);have b2:b.2=a.2:=by rw[hb]
  have b3:∀ k,k∈b.1->k∈a.1\/(0<=k/\s.rowD m.row=k):=λk hk=>by rw[hb] at hk;unfold bK at hk;grind
  (have b4:0<=s.rowD m.row->s.rowD m.row∈b.1:=λh=>by rw[hb];unfold bK;grind);rw[<-hb]
  (obtain⟨c,hc⟩:=ex (dK s U (m.row.lo-1) b);obtain⟨c1,c2,c3,c4,c5,c6⟩:=mZ hU (n:=m.row.lo-1) (a:=b) (by grind);rw[hc] at c1 c2 c3 c4 c5 c6 ⊢;obtain⟨d,hd⟩:=ex (dK s U (m.row.hi-1) c);have ucb:um s c.2<=f:=vL (eY λn hn=>c1 n (by grind)) hf;obtain⟨d1,d2,d3,d4,d5,d6⟩:=mZ hU (n:=m.row.hi-1) (a:=c) ucb;rw[hd] at d1 d2 d3 d4 d5 d6 ⊢;have R:=Xj hU r d (vL (eY d1) ucb);have rb:∀ {n},Reach s r n->Reach s (m::r) n:=λh=>h.sub λx hx=>wJ _ hx;have rbD:∀ {n},cK s r n->cK s (m::r) n:=λh=>by rcases h with h|⟨k,h1,h2⟩;{exact .inl (h.sub λx hx=>wJ _ hx)};{exact .inr ⟨k,rb h1,h2⟩});have lo:0<=m.row.lo-1->m.row.lo-1<s.lems.length->Reach s (m::r) (m.row.lo-1):=λh1 h2=>.base ⟨h1,h2,m,wI,.inl rfl⟩;have hi:0<=m.row.hi-1->m.row.hi-1<s.lems.length->Reach s (m::r) (m.row.hi-1):=λh1 h2=>.base ⟨h1,h2,m,wI,.inr rfl⟩;have thD:∀ {k n},Reach s (m::r) k->cK s (s.pfn k) n->cK s (m::r) n:=λh g=>by rcases g with g|⟨j,g1,g2⟩;{exact .inr ⟨_,h,g⟩};{exact .inr ⟨j,h.thru g1,g2⟩}
  refine⟨λn hn=>R.mM n (d1 n (c1 n (by grind))),λk hk=>R.mD k (d2 k (c2 k (b1 k hk))),λn hn=>?_,λk hk=>?_,λn hn=>?_,λk hk=>?_,λk hk=>?_⟩;{rcases R.sM n hn with g|g;{rcases d4 n g with g|⟨g1,g2,g3⟩;{rcases c4 n g with g|⟨g1,g2,g3⟩;{grind};{rcases g3 with rfl|g3;{grind};{exact .inr ((lo g1 g2).thru g3)}}};{rcases g3 with rfl|g3;{grind};{exact .inr ((hi g1 g2).thru g3)}}};grind};{rcases R.sD k hk with g|g;{rcases d5 k g with g|⟨g1,g2,g3⟩;{rcases c5 k g with g|⟨g1,g2,g3⟩;{rcases b3 k g with g|⟨g1,g2⟩;{grind};{exact .inr (.inl ⟨g1,m,wI,g2⟩)}};grind};grind};grind};{obtain⟨g1,g2,x,g3,g4⟩:=hn;rcases yG.1 g3 with rfl|g3;{rcases g4 with rfl|rfl;{exact R.mM _ (d1 _ (c3 g1 g2))};{exact R.mM _ (d3 g1 g2)}};{exact R.cM n ⟨g1,g2,x,g3,g4⟩}};{obtain⟨g1,x,g3,g4⟩:=hk;rcases yG.1 g3 with rfl|g3;{subst g4;exact R.mD _ (d2 _ (c2 _ (b4 g1)))};{exact R.cD k ⟨g1,x,g3,g4⟩}};{rcases R.nM k hk with g|g;{rcases d6 k g with g|g;{rcases c6 k g with g|g;{grind};{exact .inr ⟨λj hj=>R.mM j (d1 j (g.1 j hj)),λj hj=>R.mD j (d2 j (g.2 j hj))⟩}};{exact .inr ⟨λj hj=>R.mM j (g.1 j hj),λj hj=>R.mD j (g.2 j hj)⟩}};grind}
def mI (s:Scp):∀ (f:Nat) (l:List Mult) (a:Ust),um s a.2<=f->Run s l a (rJ s f l a)
 |0,l,a,h=>Xj (f:=0) (λ_ _ h=>absurd h oM) l a h| f+1,l,a,h=>Xj (f:=f+1) (λl a h=>mI s f l a oM) l a h
def Q5 {s:Scp}{l:List Mult}:(∀ n,n∈(rJ s s.lems.length l ([],[])).2↔Reach s l n)/\∀ k,k∈(rJ s s.lems.length l ([],[])).1↔cK s l k:=by
 have R:=mI s s.lems.length l ([],[]) (by grind [um]);have hM:∀ n,Reach s l n->n∈(rJ s s.lems.length l ([],[])).2:=λn h=>by
  induction h with
  |base h=>exact R.cM _ h| step _ h2 ih =>
   rcases R.nM _ ih with g|g
   all_goals grind
 refine⟨λn=>⟨λh=>(R.sM n h).resolve_left (by simp),hM n⟩,λk=>⟨λh=>(R.sD k h).resolve_left (by simp),λh=>?_⟩⟩;rcases h with h|⟨n,h1,h2⟩;{exact R.cD k h}
 ·rcases R.nM _ (hM n h1) with g|g
  all_goals grind
def ZH (l:List Bool) (k:Int):List Bool:=if 0<=k/\k<l.length then l.set k.toNat true else l
abbrev Mst:=List Bool×List Bool
def o6 (s:Scp):List Mult->Mst->Mst
 |[],st=>st| m::r,st=>o6 s r (ZH st.1 (s.rowD m.row),ZH (ZH st.2 (m.row.lo-1)) (m.row.hi-1))
def iW (s:Scp):Nat->Mst->Mst
 |0,st=>st| n+1,st=>iW s n (if st.2.getD n false=true then o6 s (s.pfn n) st else st)
def Scp.marks (s:Scp) (l:List Mult):Mst:=iW s s.lems.length (o6 s l (List.replicate s.path.length false,List.replicate s.lems.length false))
theorem mK (l:List Bool)(k:Int):(ZH l k).length=l.length:=by grind [ZH]
def Xy {l:List Bool}{k:Int}{j:Nat}(hj:j<l.length):(ZH l k).getD j false=true↔l.getD j false=true\/k=j:=by grind [ZH]
def ZR (s:Scp):∀ (l:List Mult) (st:Mst),(o6 s l st).1.length=st.1.length/\(o6 s l st).2.length=st.2.length
 |[],st=>⟨rfl,rfl⟩| m::r,st=>by have:=ZR s r (ZH st.1 (s.rowD m.row),ZH (ZH st.2 (m.row.lo-1)) (m.row.hi-1));grind [o6,mK]
def ZS (s:Scp):∀ (l:List Mult) (st:Mst),(∀ j,j<st.1.length->((o6 s l st).1.getD j false=true↔st.1.getD j false=true\/usesD s l j)) /\ (st.2.length=s.lems.length->∀ j,j<st.2.length->((o6 s l st).2.getD j false=true↔st.2.getD j false=true\/usesM s l j))
 |[],st=>⟨λj _=>⟨.inl,λh=>h.elim id λ⟨_,m,h,_⟩=>absurd h (by simp)⟩,λ_ j _=>⟨.inl,λh=>h.elim id λ⟨_,_,m,h,_⟩=>absurd h (by simp)⟩⟩| m::r,st=>by obtain⟨h1,h2⟩:=ZS s r (ZH st.1 (s.rowD m.row),ZH (ZH st.2 (m.row.lo-1)) (m.row.hi-1));unfold o6;constructor;{intro j hj;rw[h1 j (by grind [mK]),Xy hj];constructor;{rintro ((h|h)|⟨h0,x,hx,he⟩);{grind};{exact .inr ⟨by omega,m,wI,h⟩};{exact .inr ⟨h0,x,wJ _ hx,he⟩}};{rintro (h|⟨h0,x,hx,he⟩);{grind};{rcases yG.1 hx with rfl|hx;{omega};{exact .inr ⟨h0,x,hx,he⟩}}}};{intro hl j hj;rw[h2 (by grind [mK]) j (by grind [mK]),Xy (by grind [mK]),Xy hj];constructor;{rintro (((h|h)|h)|⟨h0,h0',x,hx,he⟩);{grind};{exact .inr ⟨by omega,by omega,m,wI,.inl h⟩};{exact .inr ⟨by omega,by omega,m,wI,.inr h⟩};{exact .inr ⟨h0,h0',x,wJ _ hx,he⟩}};{rintro (h|⟨h0,h0',x,hx,he⟩);{grind};{rcases yG.1 hx with rfl|hx;{omega};{exact .inr ⟨h0,h0',x,hx,he⟩}}}}
def Scp.backs (s:Scp):Prop:=∀ (n:Nat) m,s.lems[n]?=some m->∀ x,x∈m.pf->x.row.lo<=n/\x.row.hi<=n
def HR {s:Scp}(h:s.backs){k n:Int}(hk:0<=k)(hu:usesM s (s.pfn k) n):n<k:=by
 obtain⟨_,_,m,hm,he⟩:=hu;unfold Scp.pfn at hm;cases hx:s.lems[k.toNat]? with
 |none=>grind| some y =>
  rw[hx] at hm;have:=h k.toNat y hx m hm;omega
def mX {s:Scp}(hb:s.backs){l:List Mult}:∀ (n:Nat) (st:Mst),n<=s.lems.length->st.1.length=s.path.length->st.2.length=s.lems.length ->(∀ j:Nat,j<s.lems.length->st.2.getD j false=true->Reach s l j)->(∀ j:Nat,j<s.path.length->st.1.getD j false=true->cK s l j) ->(∀ j:Nat,j<s.lems.length->usesM s l j->st.2.getD j false=true)->(∀ j:Nat,j<s.path.length->usesD s l j->st.1.getD j false=true) ->(∀ k:Nat,n<=k->k<s.lems.length->st.2.getD k false=true->(∀ j:Nat,usesM s (s.pfn k) j->st.2.getD j false=true)/\∀ j:Nat,j<s.path.length->usesD s (s.pfn k) j->st.1.getD j false=true) ->(iW s n st).1.length=s.path.length/\(iW s n st).2.length=s.lems.length/\(∀ j:Nat,j<s.lems.length->((iW s n st).2.getD j false=true↔Reach s l j))/\∀ j:Nat,j<s.path.length->((iW s n st).1.getD j false=true↔cK s l j)
 |0,st,hn,l1,l2,a1,a2,a3,a4,a5=>by
  have hM:∀ z:Int,Reach s l z->∀ j:Nat,z=j->j<s.lems.length->st.2.getD j false=true:=λz h=>by
   induction h with
   |base h=>grind| step hk h2 ih =>
    intro j e hj;subst e;obtain⟨g1,g2⟩:=hk.rng;rename_i k;obtain⟨k',rfl⟩:∃ k':Nat,k=k':=⟨k.toNat,by omega⟩;grind
  refine⟨l1,l2,λj hj=>⟨a1 j hj,λh=>hM _ h j rfl hj⟩,λj hj=>⟨a2 j hj,λh=>?_⟩⟩;rcases h with h|⟨k,h1,h2⟩;{exact a4 j hj h};{obtain⟨g1,g2⟩:=h1.rng;obtain⟨k',rfl⟩:∃ k':Nat,k=k':=⟨k.toNat,by omega⟩;exact (a5 k' (xA _) oM (hM _ h1 k' rfl oM)).2 j hj h2}
 |n+1,st,hn,l1,l2,a1,a2,a3,a4,a5=>by
  unfold iW;by_cases hm:st.2.getD n false=true
  ·rw[if_pos hm];obtain⟨g1,g2⟩:=ZS s (s.pfn n) st;obtain⟨k1,k2⟩:=ZR s (s.pfn n) st;have g2:=g2 l2;have hr:=a1 n oM hm;refine mX hb n _ oM oM oM (λj hj h=>?_) (λj hj h=>?_) (λj hj h=>?_) (λj hj h=>?_) (λk hk hk2 h=>?_);{rcases (g2 j oM).1 h with h|h;{grind};{exact .step hr h}};{rcases (g1 j oM).1 h with h|h;{grind};{exact .inr ⟨n,hr,h⟩}};{grind};{grind}
   ·by_cases e:k=n;{subst e;exact⟨λj hj=>(g2 j (by have:=hj.2.1;omega)).2 (.inr hj),λj hj hu=>(g1 j oM).2 (.inr hu)⟩}
    ·(have hkm:st.2.getD k false=true:=by rcases (g2 k oM).1 h with h|h;{exact h};{have:=HR hb oM h;omega});obtain⟨q1,q2⟩:=a5 k oM hk2 hkm;exact⟨λj hj=>(g2 j (by have:=hj.2.1;omega)).2 (.inl (q1 j hj)),λj hj hu=>(g1 j oM).2 (.inl (q2 j hj hu))⟩
  {rw[if_neg hm];exact mX hb n st oM l1 l2 a1 a2 a3 a4 λk hk hk2 h=>by by_cases e:k=n;{grind};{exact a5 k oM hk2 h}}
def iU {s:Scp}(hb:s.backs)(l:List Mult):(s.marks l).1.length=s.path.length/\(s.marks l).2.length=s.lems.length/\(∀ j:Nat,j<s.lems.length->((s.marks l).2.getD j false=true↔Reach s l j))/\∀ j:Nat,j<s.path.length->((s.marks l).1.getD j false=true↔cK s l j):=by
 have rep:∀ (n j:Nat),¬((List.replicate n false).getD j false=true):=λn j=>by grind
 obtain⟨g1,g2⟩:=ZS s l (List.replicate s.path.length false,List.replicate s.lems.length false);obtain⟨k1,k2⟩:=ZR s l (List.replicate s.path.length false,List.replicate s.lems.length false);simp only[Po] at g1 g2 k1 k2;have g2:=g2 trivial;exact mX hb _ _ (yD _) k1 k2 (λj hj h=>.base (((g2 j hj).1 h).resolve_left (rep _ _))) (λj hj h=>.inl (((g1 j hj).1 h).resolve_left (rep _ _))) (λj hj h=>(g2 j hj).2 (.inr h)) (λj hj h=>(g1 j hj).2 (.inr h)) (λk h1 h2=>absurd h1 oM)
def vM (l:List Bool):List Int:=((List.range l.length).filter λi=>l.getD i false).map λi:Nat=>(i:Int)
def s9 {l:List Bool}{z:Int}:z∈vM l↔∃ j:Nat,z=j/\j<l.length/\l.getD j false=true:=by unfold vM;grind
def YX (l:List Bool):(vM l).Pairwise (·<·):=by unfold vM;refine List.pairwise_map.2 ((List.pairwise_lt_range.filter _).imp λ{a b} h=>by omega)
def AG {s:Scp}(hb:s.backs){l:List Mult}(hd:∀ k,cK s l k->k<s.path.length):j9 (rJ s s.lems.length l ([],[])).1=vM (s.marks l).1/\j9 (rJ s s.lems.length l ([],[])).2=vM (s.marks l).2:=by
 obtain⟨m1,m2,m3,m4⟩:=iU hb l;obtain⟨u1,u2⟩:=Q5 (s:=s) (l:=l);refine⟨Kd (λx=>?_) (YX _),Kd (λx=>?_) (YX _)⟩
 ·rw[u2,s9];constructor
  ·(intro h;have h0:0<=x:=by rcases h with h|⟨_,_,h⟩;{exact h.1};{exact h.1});have:=hd x h;exact⟨x.toNat,by omega,by omega,(m4 x.toNat oM).2 (by grind)⟩
  grind
 {rw[u1,s9];constructor;{intro h;obtain⟨g1,g2⟩:=h.rng;exact⟨x.toNat,by omega,by omega,(m3 x.toNat oM).2 (by grind)⟩};grind}
def pot (s:Scp) (M:List Int):Nat:=(((List.range s.lems.length).filter λn:Nat=>decide ((n:Int)∉M)).map λn:Nat=>(s.pfn n).length).sum
def Gx {s:Scp}{M:List Int}{n:Int}(h0:0<=n)(h1:n<s.lems.length)(h:n∉M):pot s (n::M)+(s.pfn n).length=pot s M:=by
 unfold pot;obtain⟨k,rfl⟩:∃ k:Nat,n=k:=⟨n.toNat,by omega⟩;have hk:k<s.lems.length:=by omega
 have key:∀ (l:List Nat),l.Nodup->k∈l->((l.filter λx:Nat=>decide ((x:Int)∉(k:Int)::M)).map λn:Nat=>(s.pfn n).length).sum+(s.pfn k).length=((l.filter λx:Nat=>decide ((x:Int)∉M)).map λn:Nat=>(s.pfn n).length).sum:=by
  intro l;induction l with
  |nil=>grind| cons a r ih =>
   intro hn hm;obtain⟨g1,g2⟩:=Zz.1 hn;rcases yG.1 hm with rfl|hm;{grind [List.filter_congr]};grind
 grind
def wgt (s:Scp) (st:Ust):Nat:=st.1.length+pot s st.2
def o8 {s:Scp}{U:List Mult->Ust->Ust}{f:Nat}(hU:∀ l a,um s a.2<f->wgt s (U l a)<=wgt s a+l.length){n:Int}{a:Ust}(hf:um s a.2<=f):wgt s (dK s U n a)<=wgt s a:=by unfold dK;split;{rename_i h;obtain⟨h0,h1,h2⟩:=h;have hu:=UG h0 h1 h2;have hp:=Gx h0 h1 h2;have:=hU (s.pfn n) (a.1,n::a.2) (by grind);have e1:wgt s (a.1,n::a.2)=a.1.length+pot s (n::a.2):=rfl;have e2:wgt s a=a.1.length+pot s a.2:=rfl;omega};omega
def Ji (d:Int)(D:List Int):(bK d D).length<=D.length+1:=by grind [bK]
def Xh {s:Scp}{U:List Mult->Ust->Ust}{f:Nat}(hR:∀ l a,um s a.2<f->Run s l a (U l a))(hU:∀ l a,um s a.2<f->wgt s (U l a)<=wgt s a+l.length):∀ (l:List Mult) (a:Ust),um s a.2<=f->wgt s (ZF s U l a)<=wgt s a+l.length
 |[],a,_=>yD _| m::r,a,hf=>by
  (unfold ZF;have hb:wgt s (bK (s.rowD m.row) a.1,a.2)<=wgt s a+1:=by have:=Ji (s.rowD m.row) a.1;show (bK _ _).length+pot s a.2<=a.1.length+pot s a.2+1;omega);have h1:=o8 hU (n:=m.row.lo-1) (a:=(bK (s.rowD m.row) a.1,a.2)) hf;have c1:=(mZ hR (n:=m.row.lo-1) (a:=(bK (s.rowD m.row) a.1,a.2)) hf).1;generalize dK s U (m.row.lo-1) (bK (s.rowD m.row) a.1,a.2)=c at *;have ucb:um s c.2<=f:=vL (eY λn hn=>c1 n hn) hf;have h2:=o8 hU (n:=m.row.hi-1) (a:=c) ucb;have d1:=(mZ hR (n:=m.row.hi-1) (a:=c) ucb).1;generalize dK s U (m.row.hi-1) c=d at *;have h3:=Xh hR hU r d (vL (eY d1) ucb);grind
def Xk (s:Scp):∀ (f:Nat) (l:List Mult) (a:Ust),um s a.2<=f->wgt s (rJ s f l a)<=wgt s a+l.length
 |0,l,a,h=>Xh (f:=0) (λ_ _ h=>absurd h oM) (λ_ _ h=>absurd h oM) l a h| f+1,l,a,h=>Xh (f:=f+1) (λl a h=>mI s f l a oM) (λl a h=>Xk s f l a oM) l a h
def vol (s:Scp) (st:Ust):Nat:=st.2.length+um s st.2
def o9 {s:Scp}{U:List Mult->Ust->Ust}{f:Nat}(hU:∀ l a,um s a.2<f->vol s (U l a)=vol s a){n:Int}{a:Ust}(hf:um s a.2<=f):vol s (dK s U n a)=vol s a:=by unfold dK;split;{rename_i h;obtain⟨h0,h1,h2⟩:=h;have hu:=UG h0 h1 h2;rw[hU (s.pfn n) (a.1,n::a.2) (by grind)];show (n::a.2).length+um s (n::a.2)=a.2.length+um s a.2;grind};{rfl}
def YW {s:Scp}{U:List Mult->Ust->Ust}{f:Nat}(hR:∀ l a,um s a.2<f->Run s l a (U l a)){n:Int}{a:Ust}(hf:um s a.2<=f):um s (dK s U n a).2<=f :=
 vL (eY λk hk=>(mZ hR (n:=n) hf).1 k hk) hf
def Xi {s:Scp}{U:List Mult->Ust->Ust}{f:Nat}(hR:∀ l a,um s a.2<f->Run s l a (U l a))(hU:∀ l a,um s a.2<f->vol s (U l a)=vol s a):∀ (l:List Mult) (a:Ust),um s a.2<=f->vol s (ZF s U l a)=vol s a
 |[],a,_=>rfl| m::r,a,hf=>by unfold ZF;have u1:um s ((bK (s.rowD m.row) a.1,a.2):Ust).2<=f:=hf;have u2:=YW hR (n:=m.row.lo-1) u1;have u3:=YW hR (n:=m.row.hi-1) u2;rw[Xi hR hU r _ u3,o9 hU u2,o9 hU u1];rfl
def Xl (s:Scp):∀ (f:Nat) (l:List Mult) (a:Ust),um s a.2<=f->vol s (rJ s f l a)=vol s a
 |0,l,a,h=>Xi (f:=0) (λ_ _ h=>absurd h oM) (λ_ _ h=>absurd h oM) l a h| f+1,l,a,h=>Xi (f:=f+1) (λl a h=>mI s f l a oM) (λl a h=>Xl s f l a oM) l a h
def tX {rs:List ResultVar}{r:PV}{ps ps':PS}{kept:List (Nat×Obj')}(hw:Wk ps ps')(h3:lv r=true)(h4:qE id ps'.objs kept)(h5:ndO (z9 id kept)=true)(h6:Wl id kept)(h:match bE ps' rs with
  |some l=>les (lU l) (ren id r)| none=>False):RetOk rs r kept [] ps:=by
 cases h1:bE ps' rs with
 |none=>grind| some l=>rw[h1] at h;exact⟨ps',l,id,hw,h1,bY h,h3,by grind,by grind,h6⟩
def bc (b:Bool):List PV:=[zL b]
def ic (z:Int):List PV:=[iV z]
def YY (b:Int):yT qO (ic b)=true:=rfl
def Qp (b:Int):(ic b).length=1:=rfl
abbrev zlv (l:List Int):PV:=.sl (λ_=>enc ic l)
structure Psz (s:Scp):Prop where
 q:s.q.sz (2^31)
 p:Dsz (2^32) s.path
 v:s.q.valid=true
def Zf {α:Type} (P:α->Bool) (i:Int) (l:List α):Int:=if v6 P l<0 then -1 else v6 P l+i
theorem Z3 {α:Type}(P:α->Bool)(i:Int)(a:α)(r:List α):Zf P i (a::r)=if P a=true then i else Zf P (i+1) r:=by unfold Zf;rw[show v6 P (a::r)=if P a then 0 else if v6 P r<0 then -1 else v6 P r+1 from rfl];grind
def Z2 {α:Type}(P:α->Bool)(l:List α):Zf P 0 l=v6 P l:=by unfold Zf;have:=aS P l;omega
def L5 (s:Scp)(kind unit:Int)(hs:Psz s):zC 103 [sv s,iV kind,iV unit] (iV (s.fst kind unit)):=by
 refine sF Tryz.f103 ?_;have cf:∀ d,d∈s.path->zC 105 [qv s.q,dv d] (zL (d.fits s.q)):=λd h=>by have:=Gp s.q d hs.q (hs.p.sz d h);rw[hs.v,yW] at this;omega
 have hpl:=hs.p.len;generalize hr:s.fst kind unit=r;have hr0:r=Zf (λd=>decide (d.k=kind)&&(decide (d.i=unit)&&d.fits s.q)) 0 (s.path.drop 0):=by rw[Z2];exact hr.symm
 obtain⟨ft,hft⟩:∃ ft:Dec->Bool,∀ d,ft d=d.fits s.q:=⟨_,λ_=>rfl⟩;simp only[<-hft] at cf hr0;obtain⟨P,hP⟩:∃ P:Dec->Bool,(λd=>decide (d.k=kind)&&(decide (d.i=unit)&&ft d))=P:=⟨_,rfl⟩;rw[hP] at hr0;have hPd:∀ d,P d=(decide (d.k=kind)&&(decide (d.i=unit)&&ft d)):=λd=>by grind
 obtain⟨X,hX⟩:∃ X:Int->List Dec->Int,∀ i l,X i l=Zf P i l:=⟨_,λ_ _=>rfl⟩;have hXn:∀ i,X i []=-1:=λi=>by rw[hX];rfl
 have hXc:∀ i d r,X i (d::r)=if P d=true then i else X (i+1) r:=λi d r=>by grind [Z3]
 rw[<-hX] at hr0;clear hP hft hr hs hX;cbv;refine z7 (σ:=Nat) (λi=>⟨[(1,iV kind),(2,iV unit),(3,.ptr 3 0),(7,iV i)],[(3,.box (sc s))]⟩) (λi=>i<=s.path.length/\r=X i (s.path.drop i)) (λi=>s.path.length-i) 0 ⟨by omega,hr0⟩ (wkZ) ?_;clear hr0;intro i hi;obtain⟨h1,h2⟩:=hi;cbv;refine zF (λh5=>?_) (λh5=>?_)
 ·have hlt:=jS h5;obtain⟨d,hd⟩:=zS hlt;have cv:=cf d (z3 hd);rw[zY hd,hXc,hPd] at h2;generalize ft d=fd at *;cbv;refine zM 28 (by cbv) ?_;cbv;refine yL hd uF qP ?_;cbv;refine zQ (λe1=>?_) (λe1=>?_)
  rotate_left
  {rw[decide_eq_false e1,kS,if_neg (by decide)] at h2;cbv;exact⟨zD om om,i+1,⟨om,h2⟩,om,wkZ⟩};rw[decide_eq_true e1,yW] at h2;cbv;refine yL hd uF qP ?_;cbv;refine zQ (λe2=>?_) (λe2=>?_)
  rotate_left
  {rw[decide_eq_false e2,kS,if_neg (by decide)] at h2;cbv;exact⟨zD om om,i+1,⟨om,h2⟩,om,wkZ⟩};rw[decide_eq_true e2,yW] at h2;cbv;refine yL hd uF qP ?_;cbv;refine dA cv ?_;cbv;refine zO (λe3=>?_) (λe3=>?_)
  ·rw[if_pos e3] at h2;cbv
   (refine rC ?_;cbv)
   exact zB h2.symm
  {rw[if_neg (by grind)] at h2;cbv;exact⟨zD om om,i+1,⟨om,h2⟩,om,wkZ⟩}
 ·have he:=dZ h5 h1;rw[he,vE,hXn] at h2;cbv
  (refine rC ?_;cbv)
  exact zB h2.symm
def lG (l:List Bool)(i:Nat):(((List.range i).filter λk=>l.getD k false).map (λk:Nat=>(k:Int))).length<=i:=by grind
def N6:Pg.funcs[203]?=some Tryz.f203:=by rw[uZ];rfl
def sK1 (r:Row):zC 203 [rwv r] (mlv (mR [(r,1)])):=by
 refine sI N6 rfl rfl rfl rfl rfl ?_;have c1:=s32 1 (by decide) (by decide);rw[show (((1:Int):Rat))=(1:Rat) by rfl] at c1;have hr:mR [(r,1)]=[⟨r,zI 1⟩]:=rfl;generalize mR [(r,1)]=res at *;generalize zI 1=O at *;cbv;refine zM 5 (by cbv) ?_;cbv;refine dA c1 ?_;cbv
 (refine rC ?_;cbv)
 exact zR (by rw[hr];rfl)
def Ss (r:Row):Sound 203 [rwv r] [] [] (yX 100 7 1) [] (mao 100 (mR [(r,1)])):=by refine sI N6 rfl rfl rfl rfl rfl ?_;have c1:=s32 1 (by decide) (by decide);rw[show (((1:Int):Rat))=(1:Rat) by rfl] at c1;have hr:mR [(r,1)]=[⟨r,zI 1⟩]:=rfl;generalize mR [(r,1)]=res at *;generalize zI 1=O at *;subst hr;cbv;refine zM 2 (by cbv) ?_;cbv;refine dA c1 ?_;cbv;refine RD rfl ?_;cbv;refine tY (ps':=⟨[(2,yX 6 7 1)],[(6,xF 7 (enc mc [⟨r,O⟩]))]⟩) 6 (.le ?_ ?_ rfl) rfl rfl rfl ?_;{cbv;exact⟨zT rfl rfl,trivial⟩};{cbv;exact⟨zG rfl,trivial⟩};{cbv;exact lR}
def Ns (s:Scp)(kind unit:Int)(hq:s.q.sz (2^31))(hs:Dsz (2^32) s.path)(hv:s.q.valid=true):zC 254 [sv s,iV kind,iV unit] (zL (s.dcd kind unit)):=by
 refine sF Tryz.f254 ?_;have cf:∀ d,d∈s.path->zC 105 [qv s.q,dv d] (zL (d.fits s.q)):=λd h=>by have:=Gp s.q d hq (hs.sz d h);grind
 have hpl:=hs.len;generalize hr:s.dcd kind unit=r;have hr0:r=(s.path.drop 0).any (λd=>decide (d.k=kind)&&(decide (d.i=unit)&&d.fits s.q)):=hr.symm;obtain⟨ft,hft⟩:∃ ft:Dec->Bool,∀ d,ft d=d.fits s.q:=⟨_,λ_=>rfl⟩;simp only[<-hft] at cf hr0;obtain⟨P,hP⟩:∃ P:Dec->Bool,(λd=>decide (d.k=kind)&&(decide (d.i=unit)&&ft d))=P:=⟨_,rfl⟩;rw[hP] at hr0;have hPd:∀ d,P d=(decide (d.k=kind)&&(decide (d.i=unit)&&ft d)):=λd=>by grind
 clear hP hft hr hs hq hv;cbv;refine z7 (σ:=Nat) (λi=>⟨[(1,iV kind),(2,iV unit),(3,.ptr 3 0),(7,iV i)],[(3,.box (sc s))]⟩) (λi=>i<=s.path.length/\r=(s.path.drop i).any P) (λi=>s.path.length-i) 0 ⟨by omega,hr0⟩ (wkZ) ?_;clear hr0;intro i hi;obtain⟨h1,h2⟩:=hi;cbv;refine zF (λh5=>?_) (λh5=>?_)
 ·have hlt:=jS h5;obtain⟨d,hd⟩:=zS hlt;have cv:=cf d (z3 hd);rw[zY hd,List.any_cons,hPd] at h2;generalize ft d=fd at *;generalize hrest:(s.path.drop (i+1)).any P=rest at *;cbv;refine zM 28 (by cbv) ?_;cbv;refine yL hd uF qP ?_;cbv;refine zQ (λe1=>?_) (λe1=>?_)
  rotate_left
  {rw[decide_eq_false e1,kS,r9] at h2;cbv;exact⟨zD om om,i+1,⟨om,by grind⟩,om,wkZ⟩};rw[decide_eq_true e1,yW] at h2;cbv;refine yL hd uF qP ?_;cbv;refine zQ (λe2=>?_) (λe2=>?_)
  rotate_left
  {rw[decide_eq_false e2,kS,r9] at h2;cbv;exact⟨zD om om,i+1,⟨om,by grind⟩,om,wkZ⟩};rw[decide_eq_true e2,yW] at h2;cbv;refine yL hd uF qP ?_;cbv;refine dA cv ?_;cbv;refine zO (λe3=>?_) (λe3=>?_)
  ·rw[e3,Us] at h2;cbv
   (refine rC ?_;cbv)
   exact yV h2
  {rw[e3,r9] at h2;cbv;exact⟨zD om om,i+1,⟨om,by grind⟩,om,wkZ⟩}
 ·have he:=dZ h5 h1;rw[he,vE] at h2;have h2':r=false:=h2;cbv
  (refine rC ?_;cbv)
  exact zK h2'
structure Usz (s:Scp):Prop where
 q:s.q.sz (2^31)
 p:Dsz (2^32) s.path
 l:Lsz (2^20) s.lems
 v:s.q.valid=true
def ZE {s:Scp}{j:Int}(h:(s.best j).1≠0):∃ m,s.lems[(s.best j).1-1]?=some m/\s.vLo j=m.v.q:=by obtain⟨m,hm,_⟩:=cE (s:=s) (unit:=j) (.inl rfl) h;grind [Scp.vLo,qW]
def Xf {s:Scp}{j:Int}(h:(s.best j).2≠0):∃ m,s.lems[(s.best j).2-1]?=some m/\s.vHi j=m.v.q:=by obtain⟨m,hm,_⟩:=cE (s:=s) (unit:=j) (.inr rfl) h;grind [Scp.vHi,qW]
def R6 (s:Scp)(j:Int)(hs:Usz s):zC 204 [sv s,iV j] (.tup [rwv (s.offR j).1,zL ((s.offR j).2)]):=by
 refine sF Tryz.f204 ?_;have cb:=bB s j hs.l;have hll:=hs.l.len;have hss:=hs.l.sz;have cd:=Ns s 2 j hs.q hs.p hs.v;have hv:=λh=>Xf (s:=s) (j:=j) h;obtain⟨R,hR⟩:=ex (s.offR j);have h1:s.dcd 2 j=true->R=(⟨10,j,0,0⟩,true):=λh=>by rw[<-hR];unfold Scp.offR;grind
 have h2:s.dcd 2 j=false->R=(⟨10,j,0,(s.best j).2⟩,decide (0<(s.best j).2)&&decide (yA (s.vHi j)<=0)):=λh=>by rw[<-hR];unfold Scp.offR;grind
 rw[hR];obtain⟨R,b⟩:=R;generalize s.dcd 2 j=dd at *;generalize s.vHi j=x at *;generalize s.best j=B at *;obtain⟨b1,b2⟩:=B;dsimp only at *;obtain⟨⟨⟨gn,us,os⟩,⟨lo,hi,rows⟩,⟨ts,c1',c2',c3'⟩⟩,path,L⟩:=s;dsimp only at *;clear hR hs;cbv;refine cA cb ?_;cbv;refine cA cd ?_;cbv;refine zO (λe=>?_) (λe=>?_);{obtain⟨q1,q2⟩:=Ye (h1 e);subst q1 q2;cbv;exact rA};obtain⟨q1,q2⟩:=Ye (h2 e);subst q1 q2;cbv;refine zQ (λe1=>?_) (λe1=>?_)
 rotate_left
 ·cbv
  (refine rC ?_;cbv)
  exact⟨okA,zK (by simp;exact om),trivial⟩
 have e1':b2≠0:=by exact om
 obtain⟨m,g,hx⟩:=hv e1';have z:=hss m (z3 g);have l2:=(wE.1 g).1;have csg:=s35 m.v (by have:=z.n;omega);rw[<-hx] at csg;generalize yA x=sg at *;cbv;refine⟨zD om om,x5 g (by exact om) xB y7 ?_⟩;cbv;refine cA csg ?_;cbv
 (refine rC ?_;cbv)
 exact⟨okA,zX (by simp;exact om),trivial⟩
def Nr (s:Scp)(j:Int)(hs:Usz s):zC 205 [sv s,iV j] (.tup [rwv (s.onR j).1,zL ((s.onR j).2)]):=by
 refine sF Tryz.f205 ?_;have cb:=bB s j hs.l;have hll:=hs.l.len;have hss:=hs.l.sz;have cd:=Ns s 1 j hs.q hs.p hs.v;have hv:=λh=>ZE (s:=s) (j:=j) h;obtain⟨R,hR⟩:=ex (s.onR j);have h1:s.dcd 1 j=true->R=(⟨8,j,0,0⟩,true):=λh=>by rw[<-hR];unfold Scp.onR;grind
 have h2:s.dcd 1 j=false->R=(⟨8,j,(s.best j).1,0⟩,decide (0<(s.best j).1)&&decide (0<=yA (s.vLo j))):=λh=>by rw[<-hR];unfold Scp.onR;grind
 rw[hR];obtain⟨R,b⟩:=R;generalize s.dcd 1 j=dd at *;generalize s.vLo j=x at *;generalize s.best j=B at *;obtain⟨b1,b2⟩:=B;dsimp only at *;obtain⟨⟨⟨gn,us,os⟩,⟨lo,hi,rows⟩,⟨ts,c1',c2',c3'⟩⟩,path,L⟩:=s;dsimp only at *;clear hR hs;cbv;refine cA cb ?_;cbv;refine cA cd ?_;cbv;refine zO (λe=>?_) (λe=>?_);{obtain⟨q1,q2⟩:=Ye (h1 e);subst q1 q2;cbv;exact rA};obtain⟨q1,q2⟩:=Ye (h2 e);subst q1 q2;cbv;refine zQ (λe1=>?_) (λe1=>?_)
 rotate_left
 ·cbv
  (refine rC ?_;cbv)
  exact⟨okA,zK (by simp;exact om),trivial⟩
 have e1':b1≠0:=by exact om
 obtain⟨m,g,hx⟩:=hv e1';have z:=hss m (z3 g);have l2:=(wE.1 g).1;have csg:=s35 m.v (by have:=z.n;omega);rw[<-hx] at csg;generalize yA x=sg at *;cbv;refine⟨zD om om,x5 g (by exact om) xB y7 ?_⟩;cbv;refine cA csg ?_;cbv
 (refine rC ?_;cbv)
 exact⟨okA,zX (by simp;exact om),trivial⟩
abbrev bdv (b:Bd) (h:Bool):PV:=.agg [zL b.1.neg,nat b.1.num,nat b.1.den,mlv (mR b.2),zL h]
def LU (s:Scp)(j:Int)(hs:Usz s):zC 172 [sv s,iV j] (bdv (s.leB j) true):=by
 refine sF Tryz.f172 ?_;have cb:=bB s j hs.l;have hll:=hs.l.len;have hss:=hs.l.sz;have hv:=λh=>ZE (s:=s) (j:=j) h;have c5:=sK1 ⟨5,j,0,0⟩;have c6:=Ss ⟨6,j,0,0⟩;obtain⟨R,hR⟩:=ex (s.leB j);have h1:((s.best j).1=0\/yA (s.vLo j)<=0)->R=(R0,[(⟨5,j,0,0⟩,1)]):=λh=>by rw[<-hR];unfold Scp.leB;grind
 have h2:¬((s.best j).1=0\/yA (s.vLo j)<=0)->R=(zI (s.vLo j),[(⟨6,j,0,0⟩,1),(⟨11,j,(s.best j).1,0⟩,1)]):=λh=>by rw[<-hR];unfold Scp.leB;grind
 unfold bdv;rw[hR];obtain⟨V,P⟩:=R;dsimp only;generalize s.vLo j=x at *;generalize s.best j=B at *;obtain⟨b1,b2⟩:=B;dsimp only at *;have c11:=Ss ⟨11,j,b1,0⟩;obtain⟨M,hM⟩:=ex (mR P);obtain⟨M5,hM5⟩:=ex (mR [((⟨5,j,0,0⟩:Row),(1:Rat))]);obtain⟨M6,hM6⟩:=ex (mR [((⟨6,j,0,0⟩:Row),(1:Rat))]);obtain⟨M11,hM11⟩:=ex (mR [((⟨11,j,b1,0⟩:Row),(1:Rat))]);have k1:(b1=0\/yA x<=0)->V=R0/\M=M5:=λh=>by grind
 have k2:¬(b1=0\/yA x<=0)->V=zI x/\M=M6++M11:=λh=>by obtain⟨q1,q2⟩:=Ye (h2 h);exact⟨q1,by rw[<-hM,q2,<-hM6,<-hM11];rfl⟩
 have l6:M6.length=1:=by rw[<-hM6];rfl
 have l11:M11.length=1:=by rw[<-hM11];rfl
 simp only[hM,hM5,hM6,hM11] at *;clear h1 h2 hM hM5 hM6 hM11;obtain⟨⟨⟨gn,us,os⟩,⟨lo,hi,rows⟩,⟨ts,c1',c2',c3'⟩⟩,path,L⟩:=s;dsimp only at *;clear hR hs;cbv;refine cA cb ?_;cbv;refine zQ (λe1=>?_) (λe1=>?_);{obtain⟨q1,q2⟩:=k1 (.inl (by exact om));subst q1 q2;cbv;refine cA c5 ?_;cbv;exact rA};have e1':b1≠0:=by exact om
 obtain⟨m,g,hx⟩:=hv e1';have z:=hss m (z3 g);have l2:=(wE.1 g).1;have csg:=s35 m.v (by have:=z.n;omega);have ccn:=s47 m.v (z.mono (by decide));rw[<-hx] at csg ccn;generalize yA x=sg at *;generalize zI x=RX at *;cbv;refine⟨zD om om,x5 g (by exact om) xB y7 ?_⟩;cbv;refine cA csg ?_;cbv;refine zF (λe2=>?_) (λe2=>?_);{obtain⟨q1,q2⟩:=k1 (.inr e2);subst q1 q2;cbv;refine cA c5 ?_;cbv;exact rA};obtain⟨q1,q2⟩:=k2 (λh=>h.elim e1' e2);subst q1 q2;cbv;refine kA (λ_=>201) c6 ?_;cbv;refine kA (λ_=>202) c11 ?_;cbv;refine Jy kK rfl rfl rfl (by simp[zA,l6]) rfl rfl rfl (by grind [zA]) (xE xS _) (z8 oM (by grind [zA])) rfl ?_;cbv;refine⟨zD om om,x5 g (by exact om) xB y7 ?_⟩;cbv;refine cA ccn ?_;cbv;refine bD _ (.trans (Wk.sel _ [4] [4,39] rfl) (.frz 39 rfl rfl ?_ ?_)) rfl ?_;{cbv};{cbv;exact⟨⟨zZ (by simp),trivial⟩,trivial⟩};cbv;exact⟨lR,lR,lR,zR (by rw[wZ,yU (by simp),j6]),yV rfl,trivial⟩
def Nt (f:F)(v:Int)(hc:Cn f.ts)(hl:f.ts.length<2^38):zC 207 [fv f,iV v] (rv (zI (co f.ts v))):=by
 refine sF Tryz.f207 ?_;obtain⟨C,hC⟩:=ex (zI (co f.ts v));have h1:∀ t,t∈f.ts->t.1=v->zI t.2=C:=λt ht e=>by rw[<-hC,<-e,hc.co_mem ht]
 have h2:(∀ t,t∈f.ts->t.1≠v)->C=R0:=λh=>by rw[<-hC,tP h];exact uJ
 have hln:(tR f.ts).length=f.ts.length:=vD _;have hget:∀ (i:Nat) t,f.ts[i]?=some t->(tR f.ts)[i]?=some (t.1,zI t.2):=λi t h=>by simp[tR,dH,h]
 rw[hC];obtain⟨ts,c⟩:=f;dsimp only [fv,fA] at *;generalize tR ts=T at *;generalize zI c=K at *;clear hc hC;cbv;refine z7 (σ:=Nat) (λi=>⟨[(1,iV v),(2,.ptr 2 0),(4,.ptr 4 0),(5,iV i)],[(2,.box [tsv T,zL K.neg,nat K.num,nat K.den]),(4,.box [.ff,.nil,.nil])]⟩)
  (λi=>i<=ts.length/\∀ k t,k<i->ts[k]?=some t->t.1≠v) (λi=>ts.length-i) 0 ⟨xA _,λk t h=>absurd h oM⟩ (wkZ) ?_
 intro i hi;obtain⟨g1,g2⟩:=hi;cbv;refine zF (λh5=>?_) (λh5=>?_)
 ·(rw[zA,hln] at h5;have hlt:i<ts.length:=by exact om);obtain⟨t,ht⟩:=zS hlt
  have hT:=hget i t ht;obtain⟨tv,tq'⟩:=t;have hk:=h1 _ (z3 ht);dsimp only at hk hT;generalize zI tq'=Q at *;cbv;refine yL hT wT wO ?_;cbv;refine zF (λe=>?_) (λe=>?_);{have:=hk e;subst this;cbv;refine yL hT wT wO ?_;cbv;exact rA};{cbv;exact⟨zD om om,i+1,⟨om,λk t hk' hkt=>by grind⟩,om,wkZ⟩}
 ·(have hi:i=ts.length:=by rw[zA,hln] at h5;exact om);have:=h2 λt ht=>by obtain⟨k,hk,rfl⟩:=List.getElem_of_mem ht;exact g2 k _ oM (gC hk)
  subst this;cbv;exact rA
def SQ {f:F}{k n:Nat}(hc:Cn f.ts)(h:f.fl k n)(hk:1<=k)(v:Int):F.fl ⟨xO v (-(co f.ts v)) false f.ts,f.c⟩ k (n+1):=by refine⟨λt ht=>?_,h.c,?_⟩;{have hn:=(Cn.plus (v:=v) (q:=-(co f.ts v)) hc).n t ht;have h1:=(Cn.plus (v:=v) (q:=-(co f.ts v)) hc).co_mem ht;rw[Zn _ hc] at h1;by_cases e:v=t.1;{grind};{rw[if_neg e] at h1;rw[<-h1,Rat.add_zero];exact QF hc h.t hk t.1}};{have:=nY v (-(co f.ts v)) false f.ts;have:=h.len;grind}
def Eb (f g:F)(v:Int){k n k' n':Nat}(hc:Cn f.ts)(hg:Cn g.ts)(h:f.fl k n)(h':g.fl k' n')(h1:1<=k)(hk:k+k'<=2^25)(hn:n<=2^34)(hn':n'<=2^34):zC 210 [fv f,iV v,fv g] (fv (f.subst v g)):=by refine sF Tryz.f210 ?_;have hfc:=QF hc h.t h1 v;have c1:=Nt f v hc (by have:=h.len;omega);have c2:=Cc (zI (co f.ts v)) ((zU hfc).mono oM);rw[z6] at c2;have c3:=R4 f.ts (zI f.c) v (zI (-(co f.ts v))) ⟨by have:=h.len;omega,λt ht=>(h.t t ht).mono oM⟩ ((zU (qF hfc)).mono oM);rw[z6] at c3;have c4:=fQ (q:=co f.ts v) h' hfc oM oM oM;have c5:=Gq (f:=⟨xO v (-(co f.ts v)) false f.ts,f.c⟩) (Cn.plus hc) (Cn.nil.mrg hg) (SQ hc h h1 v) (h'.scale hfc) oM oM oM oM;have hs:f.subst v g=F.add ⟨xO v (-(co f.ts v)) false f.ts,f.c⟩ (g.scale (co f.ts v)):=rfl;rw[<-hs] at c5;simp only[fv] at *;generalize fA (f.subst v g)=W at *;generalize fA (g.scale (co f.ts v))=Y at *;rw[show fA ⟨xO v (-(co f.ts v)) false f.ts,f.c⟩=⟨tR (xO v (-(co f.ts v)) false f.ts),zI f.c⟩ from rfl] at c5;generalize tR (xO v (-(co f.ts v)) false f.ts)=Z at *;generalize zI (-(co f.ts v))=NC at *;generalize zI (co f.ts v)=C at *;rw[show fA f=⟨tR f.ts,zI f.c⟩ from rfl] at *;generalize tR f.ts=T at *;generalize zI f.c=K at *;generalize fA g=G at *;clear hs hfc;cbv;refine cA c1 ?_;cbv;refine zM 9 (by cbv) ?_;cbv;refine dA c2 ?_;cbv;refine dA c3 ?_;cbv;refine dA c4 ?_;cbv;refine dA c5 ?_;cbv;exact rA
def Tq (x y:R)(hx:x.sz (2^30))(hy:y.sz (2^30)):zC 255 [rv x,rv y] (zL (iI x.q y.q)):=by
 refine sF Tryz.f255 ?_;have c1:=s35 x (by have:=hx.n;omega);have c2:=s35 y (by have:=hy.n;omega);have h:iI x.q y.q=(decide (yA x.q<0)&&decide (0<yA y.q)):=rfl;generalize iI x.q y.q=b at *;generalize yA x.q=a1 at *;generalize yA y.q=a2 at *;obtain⟨x1,x2,x3⟩:=x;obtain⟨y1,y2,y3⟩:=y
 (try dsimp only at *)
 cbv;refine cA c1 ?_;cbv;refine zQ (λe=>?_) (λe=>?_)
 ·rw[decide_eq_true e,yW] at h;cbv;refine cA c2 ?_;cbv
  (refine rC ?_;cbv)
  exact zX h.symm
 ·rw[decide_eq_false e,kS] at h;cbv
  (refine rC ?_;cbv)
  exact zK h
def Nq (x y:R)(hx:x.sz (2^31))(hy:y.sz (2^31))(h0:y.q≠0):zC 256 [rv x,rv y] (rv (zI (x.q/y.q))):=by refine sF Tryz.f256 ?_;have c1:=Sy x y hx hy h0;generalize zI (x.q/y.q)=W at *;obtain⟨x1,x2,x3⟩:=x;obtain⟨y1,y2,y3⟩:=y;clear h0;cbv;refine cA c1 ?_;cbv;exact rA
def Np (x y:R)(hx:x.sz (2^28))(hy:y.sz (2^28)):zC 208 [rv x,rv y] (iV (if sJ x.q y.q=true then 1 else 0)):=by
 refine sF Tryz.f208 ?_;have c1:=Tq x y (hx.mono (by decide)) (hy.mono (by decide));have c2:=s44 x y (hx.mono (by decide)) (hy.mono (by decide));have c3:=s35 (zI (x.q+y.q)) (by have:=(zU (kC (hx.fits (by decide)) (hy.fits (by decide)))).n;omega);rw[z6] at c3;have h:sJ x.q y.q=(iI x.q y.q&&decide (0<yA (x.q+y.q))):=rfl;generalize sJ x.q y.q=b at *;generalize iI x.q y.q=a1 at *;generalize yA (x.q+y.q)=a2 at *;generalize zI (x.q+y.q)=W at *;obtain⟨x1,x2,x3⟩:=x;obtain⟨y1,y2,y3⟩:=y
 (try dsimp only at *)
 obtain⟨r,hr⟩:∃ r:Int,(if b=true then 1 else 0)=r:=⟨_,rfl⟩;rw[hr];cbv;refine cA c1 ?_;cbv;refine yB (λe=>?_) (λe=>?_)
 ·rw[e,yW] at h;cbv;refine cA c2 ?_;cbv;refine cA c3 ?_;cbv;refine zF (λe2=>?_) (λe2=>?_)
  ·rw[h,decide_eq_true e2,if_pos rfl] at hr;cbv
   (refine rC ?_;cbv)
   exact zB hr
  ·rw[h,decide_eq_false e2,if_neg (by decide)] at hr;cbv
   (refine rC ?_;cbv)
   exact zB hr
 ·rw[h,e,kS,if_neg (by decide)] at hr;cbv
  (refine rC ?_;cbv)
  exact zB hr
def eX {x y:Rat}(h:iI x y=true):y-x≠0/\x<0/\0<y:=by unfold iI at h;simp only[yP,decide_eq_true_eq] at h;grind [cL,jZ]
def Ed (x y:R)(hx:x.sz (2^28))(hy:y.sz (2^28))(hu:iI x.q y.q=true):zC 257 [rv x,rv y] (rv (zI (-(x.q*y.q)/(y.q-x.q)))):=by
 refine sF Tryz.f257 ?_;have fx:=hx.fits (by decide);have fy:=hy.fits (by decide);have c1:=Tq x y (hx.mono (by decide)) (hy.mono (by decide));have c2:=s77 x y (hx.mono (by decide)) (hy.mono (by decide));have c3:=Cc (zI (x.q*y.q)) ((zU (y8 fx fy)).mono (by decide));have c4:=s93 y x (hy.mono (by decide)) (hx.mono (by decide));have c5:=Nq (zI (-(x.q*y.q))) (zI (y.q-x.q)) ((zU (qF (y8 fx fy))).mono (by decide)) ((zU (uC fy fx)).mono (by decide)) (by rw[z6];exact (eX hu).1);simp only[z6] at c3 c5;rw[hu] at c1;generalize zI (-(x.q*y.q)/(y.q-x.q))=W at *;generalize zI (-(x.q*y.q))=W1 at *;generalize zI (x.q*y.q)=W2 at *;generalize zI (y.q-x.q)=W3 at *;obtain⟨x1,x2,x3⟩:=x;obtain⟨y1,y2,y3⟩:=y
 (try dsimp only at *)
 clear hu fx fy;cbv;refine cA c1 ?_;cbv;refine dE rfl ?_;cbv;refine zM 8 (by cbv) ?_;cbv;refine dA c2 ?_;cbv;refine dA c3 ?_;cbv;refine dA c4 ?_;cbv;refine dA c5 ?_;cbv;exact rA
def Ec (x y:R)(hx:x.sz (2^28))(hy:y.sz (2^28))(hu:iI x.q y.q=true):zC 209 [rv x,rv y] (.tup [iV (if sJ x.q y.q=true then 1 else 0),rv (zI (y.q/(y.q-x.q))),rv (zI (-(x.q*y.q)/(y.q-x.q))),iV 0]):=by
 refine sF Tryz.f209 ?_;have fx:=hx.fits (by decide);have fy:=hy.fits (by decide);have c1:=Tq x y (hx.mono (by decide)) (hy.mono (by decide));have c2:=Np x y hx hy;have c3:=Ed x y hx hy hu;have c4:=s93 y x (hy.mono (by decide)) (hx.mono (by decide));have c5:=Nq y (zI (y.q-x.q)) (hy.mono (by decide)) ((zU (uC fy fx)).mono (by decide)) (by rw[z6];exact (eX hu).1);simp only[z6] at c5;rw[hu] at c1;generalize zI (-(x.q*y.q)/(y.q-x.q))=W at *;generalize zI (y.q/(y.q-x.q))=W1 at *;generalize zI (y.q-x.q)=W3 at *;obtain⟨r,hr⟩:∃ r:Int,(if sJ x.q y.q=true then 1 else 0)=r:=⟨_,rfl⟩;rw[hr];obtain⟨x1,x2,x3⟩:=x;obtain⟨y1,y2,y3⟩:=y
 (try dsimp only at *)
 clear hu fx fy;cbv;refine cA c1 ?_;cbv;refine dE rfl ?_;cbv;refine zM 11 (by cbv) ?_;cbv;refine dA c2 ?_;cbv;refine dA c4 ?_;cbv;refine dA c5 ?_;cbv;refine dA c3 ?_;cbv
 (refine rC ?_;cbv)
 exact⟨zB hr,okA,okA,lR,trivial⟩
end Go.Proofs.YtaeaffgjdcigoaaGreat
