/- A part of the proof: KpB, KpC, KpD, KcE, KcF. -/
import Derived.Test.YtaeaffgjdcigoaaGreatD21
import Derived.Test.YtaeaffgjdcigoaaGreatD31
import Derived.Test.YtaeaffgjdcigoaaGreatD22
import Derived.Test.YtaeaffgjdcigoaaGreatD25
set_option linter.all false
namespace Go.Proofs.YtaeaffgjdcigoaaGreat
open Go
set_option maxRecDepth 100000
set_option maxHeartbeats 4000000
def Scp.fst (s:Scp) (kind unit:Int):Int:=uF (λd=>decide (d.k=kind)&&(decide (d.i=unit)&&d.fits s.q)) s.path
def Scp.rowD (s:Scp) (r:Row):Int :=
 if r.k=4 then r.i else if (r.k=7\/r.k=8)/\r.lo=0 then s.fst 1 r.i else if (r.k=9\/r.k=10)/\r.hi=0 then s.fst 2 r.i else -1
def cG (d:Int) (D:List Int):List Int:=if 0<=d then d::D else D
abbrev Ust:=List Int×List Int
def Scp.pfn (s:Scp) (n:Int):List Mult:=((s.lems[n.toNat]?).map Lem.pf).getD []
def fT (s:Scp) (U:List Mult->Ust->Ust) (n:Int) (st:Ust):Ust:=if 0<=n/\n<s.lems.length/\n∉st.2 then U (s.pfn n) (st.1,n::st.2) else st
def Zf (s:Scp) (U:List Mult->Ust->Ust):List Mult->Ust->Ust
 |[],st=>st| m::r,st=>Zf s U r (fT s U (m.row.hi-1) (fT s U (m.row.lo-1) (cG (s.rowD m.row) st.1,st.2)))
def sN (s:Scp):Nat->List Mult->Ust->Ust
 |0=>Zf s (λ_ st=>st)| f+1=>Zf s (sN s f)
def um (s:Scp) (M:List Int):Nat:=((List.range s.lems.length).filter λn:Nat=>decide ((n:Int)∉M)).length
def VZ {s:Scp}{M:List Int}{n:Int}(h0:0<=n)(h1:n<s.lems.length)(h:n∉M):um s (n::M)+1=um s M:=by
 unfold um;obtain⟨k,rfl⟩:∃ k:Nat,n=k:=⟨n.toNat,by omega⟩;have hk:k<s.lems.length:=by omega
 have key:∀ (l:List Nat),l.Nodup->k∈l->(l.filter λx:Nat=>decide ((x:Int)∉(k:Int)::M)).length+1=(l.filter λx:Nat=>decide ((x:Int)∉M)).length:=by
  intro l;induction l with
  |nil=>grind| cons a r ih =>
   intro hn hm;obtain⟨g1,g2⟩:=Zc.1 hn;rcases yM.1 hm with rfl|hm;{grind [List.filter_congr]};grind
 grind
def usesM (s:Scp) (l:List Mult) (n:Int):Prop:=0<=n/\n<s.lems.length/\∃ m,m∈l/\(m.row.lo-1=n\/m.row.hi-1=n)
def usesD (s:Scp) (l:List Mult) (k:Int):Prop:=0<=k/\∃ m,m∈l/\s.rowD m.row=k
inductive Reach (s:Scp) (l:List Mult):Int->Prop
 |base {n} (h:usesM s l n):Reach s l n
 |step {k n} (h:Reach s l k) (h2:usesM s (s.pfn k) n):Reach s l n
def cY (s:Scp) (l:List Mult) (k:Int):Prop:=usesD s l k\/∃ n,Reach s l n/\usesD s (s.pfn n) k
theorem usesM.sub {s:Scp}{l l':List Mult}{n:Int}(h:usesM s l n)(hs:∀ m,m∈l->m∈l'):usesM s l' n:=by obtain⟨h1,h2,m,h3,h4⟩:=h;exact⟨h1,h2,m,hs m h3,h4⟩
theorem usesD.sub {s:Scp}{l l':List Mult}{n:Int}(h:usesD s l n)(hs:∀ m,m∈l->m∈l'):usesD s l' n:=by obtain⟨h1,m,h3,h4⟩:=h;exact⟨h1,m,hs m h3,h4⟩
theorem Reach.sub {s:Scp}{l l':List Mult}{n:Int}(h:Reach s l n)(hs:∀ m,m∈l->m∈l'):Reach s l' n:=by
 induction h with
 |base h=>exact .base (h.sub hs)| step _ h2 ih=>exact .step ih h2
theorem Reach.thru {s:Scp}{l:List Mult}{k n:Int}(hk:Reach s l k)(h:Reach s (s.pfn k) n):Reach s l n:=by
 induction h with
 |base h=>exact .step hk h| step _ h2 ih=>exact .step ih h2
theorem Reach.rng {s:Scp}{l:List Mult}{n:Int}(h:Reach s l n):0<=n/\n<s.lems.length:=by
 cases h with
 |base h=>exact⟨h.1,h.2.1⟩| step _ h=>exact⟨h.1,h.2.1⟩
structure Run (s:Scp) (l:List Mult) (a b:Ust):Prop where
 mM:∀ n,n∈a.2->n∈b.2
 mD:∀ k,k∈a.1->k∈b.1
 sM:∀ n,n∈b.2->n∈a.2\/Reach s l n
 sD:∀ k,k∈b.1->k∈a.1\/cY s l k
 cM:∀ n,usesM s l n->n∈b.2
 cD:∀ k,usesD s l k->k∈b.1
 nM:∀ k,k∈b.2->k∈a.2\/((∀ n,usesM s (s.pfn k) n->n∈b.2)/\∀ n,usesD s (s.pfn k) n->n∈b.1)
def mH {s:Scp}{U:List Mult->Ust->Ust}{f:Nat}(hU:∀ l a,um s a.2<f->Run s l a (U l a)){n:Int}{a:Ust}(hf:um s a.2<=f):(∀ k,k∈a.2->k∈(fT s U n a).2)/\(∀ k,k∈a.1->k∈(fT s U n a).1)/\(0<=n->n<s.lems.length->n∈(fT s U n a).2) /\ (∀ k,k∈(fT s U n a).2->k∈a.2\/(0<=n/\n<s.lems.length/\(k=n\/Reach s (s.pfn n) k)))/\(∀ k,k∈(fT s U n a).1->k∈a.1\/(0<=n/\n<s.lems.length/\cY s (s.pfn n) k)) /\ (∀ k,k∈(fT s U n a).2->k∈a.2\/((∀ j,usesM s (s.pfn k) j->j∈(fT s U n a).2)/\∀ j,usesD s (s.pfn k) j->j∈(fT s U n a).1)):=by
 unfold fT;split
 ·rename_i h;obtain⟨h0,h1,h2⟩:=h;have hu:=VZ h0 h1 h2;have R:=hU (s.pfn n) (a.1,n::a.2) (by grind);refine⟨λk hk=>R.mM k (x9 _ hk),λk hk=>R.mD k hk,λ_ _=>R.mM n wB,λk hk=>?_,λk hk=>?_,λk hk=>?_⟩
  ·rcases R.sM k hk with g|g
   all_goals grind
  ·rcases R.sD k hk with g|g
   all_goals grind
  {rcases R.nM k hk with g|g;{rcases yM.1 g with rfl|g;{exact .inr ⟨R.cM,R.cD⟩};grind};grind}
 grind
def iY {s:Scp}{M M':List Int}(h:∀ n,n∈M->n∈M'):um s M'<=um s M:=by unfold um;rw[<-List.countP_eq_length_filter,<-List.countP_eq_length_filter];exact List.countP_mono_left λx _ hx=>by grind
def YE {s:Scp}{U:List Mult->Ust->Ust}{f:Nat}(hU:∀ l a,um s a.2<f->Run s l a (U l a)):∀ (l:List Mult) (a:Ust),um s a.2<=f->Run s l a (Zf s U l a)
 |[],a,_=>⟨λ_ h=>h,λ_ h=>h,λ_ h=>.inl h,λ_ h=>.inl h,λn h=>by obtain⟨_,_,m,h,_⟩:=h;grind,λn h=>by obtain⟨_,m,h,_⟩:=h;grind,λ_ h=>.inl h⟩| m::r,a,hf=>by
  (unfold Zf;obtain⟨b,hb⟩:∃ b:Ust,b=(cG (s.rowD m.row) a.1,a.2):=⟨_,rfl⟩;have b1:∀ k,k∈a.1->k∈b.1:=λk hk=>by grind [cG]);have b2:b.2=a.2:=by rw[hb]
  have b3:∀ k,k∈b.1->k∈a.1\/(0<=k/\s.rowD m.row=k):=λk hk=>by rw[hb] at hk;unfold cG at hk;grind
  (have b4:0<=s.rowD m.row->s.rowD m.row∈b.1:=λh=>by rw[hb];unfold cG;grind);rw[<-hb]
  (obtain⟨c,hc⟩:=ex (fT s U (m.row.lo-1) b);obtain⟨c1,c2,c3,c4,c5,c6⟩:=mH hU (n:=m.row.lo-1) (a:=b) (by grind);rw[hc] at c1 c2 c3 c4 c5 c6 ⊢;obtain⟨d,hd⟩:=ex (fT s U (m.row.hi-1) c);have ucb:um s c.2<=f:=vI (iY λn hn=>c1 n (by grind)) hf;obtain⟨d1,d2,d3,d4,d5,d6⟩:=mH hU (n:=m.row.hi-1) (a:=c) ucb;rw[hd] at d1 d2 d3 d4 d5 d6 ⊢;have R:=YE hU r d (vI (iY d1) ucb);have rb:∀ {n},Reach s r n->Reach s (m::r) n:=λh=>h.sub λx hx=>x9 _ hx;have rbD:∀ {n},cY s r n->cY s (m::r) n:=λh=>by rcases h with h|⟨k,h1,h2⟩;{exact .inl (h.sub λx hx=>x9 _ hx)};{exact .inr ⟨k,rb h1,h2⟩});have lo:0<=m.row.lo-1->m.row.lo-1<s.lems.length->Reach s (m::r) (m.row.lo-1):=λh1 h2=>.base ⟨h1,h2,m,wB,.inl rfl⟩;have hi:0<=m.row.hi-1->m.row.hi-1<s.lems.length->Reach s (m::r) (m.row.hi-1):=λh1 h2=>.base ⟨h1,h2,m,wB,.inr rfl⟩;have thD:∀ {k n},Reach s (m::r) k->cY s (s.pfn k) n->cY s (m::r) n:=λh g=>by rcases g with g|⟨j,g1,g2⟩;{exact .inr ⟨_,h,g⟩};{exact .inr ⟨j,h.thru g1,g2⟩}
  refine⟨λn hn=>R.mM n (d1 n (c1 n (by grind))),λk hk=>R.mD k (d2 k (c2 k (b1 k hk))),λn hn=>?_,λk hk=>?_,λn hn=>?_,λk hk=>?_,λk hk=>?_⟩;{rcases R.sM n hn with g|g;{rcases d4 n g with g|⟨g1,g2,g3⟩;{rcases c4 n g with g|⟨g1,g2,g3⟩;{grind};{rcases g3 with rfl|g3;{grind};{exact .inr ((lo g1 g2).thru g3)}}};{rcases g3 with rfl|g3;{grind};{exact .inr ((hi g1 g2).thru g3)}}};grind};{rcases R.sD k hk with g|g;{rcases d5 k g with g|⟨g1,g2,g3⟩;{rcases c5 k g with g|⟨g1,g2,g3⟩;{rcases b3 k g with g|⟨g1,g2⟩;{grind};{exact .inr (.inl ⟨g1,m,wB,g2⟩)}};grind};grind};grind};{obtain⟨g1,g2,x,g3,g4⟩:=hn;rcases yM.1 g3 with rfl|g3;{rcases g4 with rfl|rfl;{exact R.mM _ (d1 _ (c3 g1 g2))};{exact R.mM _ (d3 g1 g2)}};{exact R.cM n ⟨g1,g2,x,g3,g4⟩}};{obtain⟨g1,x,g3,g4⟩:=hk;rcases yM.1 g3 with rfl|g3;{subst g4;exact R.mD _ (d2 _ (c2 _ (b4 g1)))};{exact R.cD k ⟨g1,x,g3,g4⟩}};{rcases R.nM k hk with g|g;{rcases d6 k g with g|g;{rcases c6 k g with g|g;{grind};{exact .inr ⟨λj hj=>R.mM j (d1 j (g.1 j hj)),λj hj=>R.mD j (d2 j (g.2 j hj))⟩}};{exact .inr ⟨λj hj=>R.mM j (g.1 j hj),λj hj=>R.mD j (g.2 j hj)⟩}};grind}
def tU (s:Scp):∀ (f:Nat) (l:List Mult) (a:Ust),um s a.2<=f->Run s l a (sN s f l a)
 |0,l,a,h=>YE (f:=0) (λ_ _ h=>absurd h oM) l a h| f+1,l,a,h=>YE (f:=f+1) (λl a h=>tU s f l a oM) l a h
def Qm {s:Scp}{l:List Mult}:(∀ n,n∈(sN s s.lems.length l ([],[])).2↔Reach s l n)/\∀ k,k∈(sN s s.lems.length l ([],[])).1↔cY s l k:=by
 have R:=tU s s.lems.length l ([],[]) (by grind [um]);have hM:∀ n,Reach s l n->n∈(sN s s.lems.length l ([],[])).2:=λn h=>by
  induction h with
  |base h=>exact R.cM _ h| step _ h2 ih =>
   rcases R.nM _ ih with g|g
   all_goals grind
 refine⟨λn=>⟨λh=>(R.sM n h).resolve_left (by simp),hM n⟩,λk=>⟨λh=>(R.sD k h).resolve_left (by simp),λh=>?_⟩⟩;rcases h with h|⟨n,h1,h2⟩;{exact R.cD k h}
 ·rcases R.nM _ (hM n h1) with g|g
  all_goals grind
def kE (l:List Bool) (k:Int):List Bool:=if 0<=k/\k<l.length then l.set k.toNat true else l
abbrev Mst:=List Bool×List Bool
def sY (s:Scp):List Mult->Mst->Mst
 |[],st=>st| m::r,st=>sY s r (kE st.1 (s.rowD m.row),kE (kE st.2 (m.row.lo-1)) (m.row.hi-1))
def mG (s:Scp):Nat->Mst->Mst
 |0,st=>st| n+1,st=>mG s n (if st.2.getD n false=true then sY s (s.pfn n) st else st)
def Scp.marks (s:Scp) (l:List Mult):Mst:=mG s s.lems.length (sY s l (List.replicate s.path.length false,List.replicate s.lems.length false))
theorem dU (l:List Bool)(k:Int):(kE l k).length=l.length:=by grind [kE]
def YT {l:List Bool}{k:Int}{j:Nat}(hj:j<l.length):(kE l k).getD j false=true↔l.getD j false=true\/k=j:=by grind [kE]
def nK (s:Scp):∀ (l:List Mult) (st:Mst),(sY s l st).1.length=st.1.length/\(sY s l st).2.length=st.2.length
 |[],st=>⟨rfl,rfl⟩| m::r,st=>by have:=nK s r (kE st.1 (s.rowD m.row),kE (kE st.2 (m.row.lo-1)) (m.row.hi-1));grind [sY,dU]
def Zp (s:Scp):∀ (l:List Mult) (st:Mst),(∀ j,j<st.1.length->((sY s l st).1.getD j false=true↔st.1.getD j false=true\/usesD s l j)) /\ (st.2.length=s.lems.length->∀ j,j<st.2.length->((sY s l st).2.getD j false=true↔st.2.getD j false=true\/usesM s l j))
 |[],st=>⟨λj _=>⟨.inl,λh=>h.elim id λ⟨_,m,h,_⟩=>absurd h (by simp)⟩,λ_ j _=>⟨.inl,λh=>h.elim id λ⟨_,_,m,h,_⟩=>absurd h (by simp)⟩⟩| m::r,st=>by obtain⟨h1,h2⟩:=Zp s r (kE st.1 (s.rowD m.row),kE (kE st.2 (m.row.lo-1)) (m.row.hi-1));unfold sY;constructor;{intro j hj;rw[h1 j (by grind [dU]),YT hj];constructor;{rintro ((h|h)|⟨h0,x,hx,he⟩);{grind};{exact .inr ⟨by omega,m,wB,h⟩};{exact .inr ⟨h0,x,x9 _ hx,he⟩}};{rintro (h|⟨h0,x,hx,he⟩);{grind};{rcases yM.1 hx with rfl|hx;{omega};{exact .inr ⟨h0,x,hx,he⟩}}}};{intro hl j hj;rw[h2 (by grind [dU]) j (by grind [dU]),YT (by grind [dU]),YT hj];constructor;{rintro (((h|h)|h)|⟨h0,h0',x,hx,he⟩);{grind};{exact .inr ⟨by omega,by omega,m,wB,.inl h⟩};{exact .inr ⟨by omega,by omega,m,wB,.inr h⟩};{exact .inr ⟨h0,h0',x,x9 _ hx,he⟩}};{rintro (h|⟨h0,h0',x,hx,he⟩);{grind};{rcases yM.1 hx with rfl|hx;{omega};{exact .inr ⟨h0,h0',x,hx,he⟩}}}}
def Scp.backs (s:Scp):Prop:=∀ (n:Nat) m,s.lems[n]?=some m->∀ x,x∈m.pf->x.row.lo<=n/\x.row.hi<=n
def J2 {s:Scp}(h:s.backs){k n:Int}(hk:0<=k)(hu:usesM s (s.pfn k) n):n<k:=by
 obtain⟨_,_,m,hm,he⟩:=hu;unfold Scp.pfn at hm;cases hx:s.lems[k.toNat]? with
 |none=>grind| some y =>
  rw[hx] at hm;have:=h k.toNat y hx m hm;omega
def mF {s:Scp}(hb:s.backs){l:List Mult}:∀ (n:Nat) (st:Mst),n<=s.lems.length->st.1.length=s.path.length->st.2.length=s.lems.length ->(∀ j:Nat,j<s.lems.length->st.2.getD j false=true->Reach s l j)->(∀ j:Nat,j<s.path.length->st.1.getD j false=true->cY s l j) ->(∀ j:Nat,j<s.lems.length->usesM s l j->st.2.getD j false=true)->(∀ j:Nat,j<s.path.length->usesD s l j->st.1.getD j false=true) ->(∀ k:Nat,n<=k->k<s.lems.length->st.2.getD k false=true->(∀ j:Nat,usesM s (s.pfn k) j->st.2.getD j false=true)/\∀ j:Nat,j<s.path.length->usesD s (s.pfn k) j->st.1.getD j false=true) ->(mG s n st).1.length=s.path.length/\(mG s n st).2.length=s.lems.length/\(∀ j:Nat,j<s.lems.length->((mG s n st).2.getD j false=true↔Reach s l j))/\∀ j:Nat,j<s.path.length->((mG s n st).1.getD j false=true↔cY s l j)
 |0,st,hn,l1,l2,a1,a2,a3,a4,a5=>by
  have hM:∀ z:Int,Reach s l z->∀ j:Nat,z=j->j<s.lems.length->st.2.getD j false=true:=λz h=>by
   induction h with
   |base h=>grind| step hk h2 ih =>
    intro j e hj;subst e;obtain⟨g1,g2⟩:=hk.rng;rename_i k;obtain⟨k',rfl⟩:∃ k':Nat,k=k':=⟨k.toNat,by omega⟩;grind
  refine⟨l1,l2,λj hj=>⟨a1 j hj,λh=>hM _ h j rfl hj⟩,λj hj=>⟨a2 j hj,λh=>?_⟩⟩;rcases h with h|⟨k,h1,h2⟩;{exact a4 j hj h};{obtain⟨g1,g2⟩:=h1.rng;obtain⟨k',rfl⟩:∃ k':Nat,k=k':=⟨k.toNat,by omega⟩;exact (a5 k' (yY _) oM (hM _ h1 k' rfl oM)).2 j hj h2}
 |n+1,st,hn,l1,l2,a1,a2,a3,a4,a5=>by
  unfold mG;by_cases hm:st.2.getD n false=true
  ·rw[if_pos hm];obtain⟨g1,g2⟩:=Zp s (s.pfn n) st;obtain⟨k1,k2⟩:=nK s (s.pfn n) st;have g2:=g2 l2;have hr:=a1 n oM hm;refine mF hb n _ oM oM oM (λj hj h=>?_) (λj hj h=>?_) (λj hj h=>?_) (λj hj h=>?_) (λk hk hk2 h=>?_);{rcases (g2 j oM).1 h with h|h;{grind};{exact .step hr h}};{rcases (g1 j oM).1 h with h|h;{grind};{exact .inr ⟨n,hr,h⟩}};{grind};{grind}
   ·by_cases e:k=n;{subst e;exact⟨λj hj=>(g2 j (by have:=hj.2.1;omega)).2 (.inr hj),λj hj hu=>(g1 j oM).2 (.inr hu)⟩}
    ·(have hkm:st.2.getD k false=true:=by rcases (g2 k oM).1 h with h|h;{exact h};{have:=J2 hb oM h;omega});obtain⟨q1,q2⟩:=a5 k oM hk2 hkm;exact⟨λj hj=>(g2 j (by have:=hj.2.1;omega)).2 (.inl (q1 j hj)),λj hj hu=>(g1 j oM).2 (.inl (q2 j hj hu))⟩
  {rw[if_neg hm];exact mF hb n st oM l1 l2 a1 a2 a3 a4 λk hk hk2 h=>by by_cases e:k=n;{grind};{exact a5 k oM hk2 h}}
def Xv {s:Scp}(hb:s.backs)(l:List Mult):(s.marks l).1.length=s.path.length/\(s.marks l).2.length=s.lems.length/\(∀ j:Nat,j<s.lems.length->((s.marks l).2.getD j false=true↔Reach s l j))/\∀ j:Nat,j<s.path.length->((s.marks l).1.getD j false=true↔cY s l j):=by
 have rep:∀ (n j:Nat),¬((List.replicate n false).getD j false=true):=λn j=>by grind
 obtain⟨g1,g2⟩:=Zp s l (List.replicate s.path.length false,List.replicate s.lems.length false);obtain⟨k1,k2⟩:=nK s l (List.replicate s.path.length false,List.replicate s.lems.length false);simp only[Gn] at g1 g2 k1 k2;have g2:=g2 trivial;exact mF hb _ _ (yC _) k1 k2 (λj hj h=>.base (((g2 j hj).1 h).resolve_left (rep _ _))) (λj hj h=>.inl (((g1 j hj).1 h).resolve_left (rep _ _))) (λj hj h=>(g2 j hj).2 (.inr h)) (λj hj h=>(g1 j hj).2 (.inr h)) (λk h1 h2=>absurd h1 oM)
def w9 (l:List Bool):List Int:=((List.range l.length).filter λi=>l.getD i false).map λi:Nat=>(i:Int)
def pJ {l:List Bool}{z:Int}:z∈w9 l↔∃ j:Nat,z=j/\j<l.length/\l.getD j false=true:=by unfold w9;grind
def UM (l:List Bool):(w9 l).Pairwise (·<·):=by unfold w9;refine List.pairwise_map.2 ((List.pairwise_lt_range.filter _).imp λ{a b} h=>by omega)
def Bc {s:Scp}(hb:s.backs){l:List Mult}(hd:∀ k,cY s l k->k<s.path.length):jK (sN s s.lems.length l ([],[])).1=w9 (s.marks l).1/\jK (sN s s.lems.length l ([],[])).2=w9 (s.marks l).2:=by
 obtain⟨m1,m2,m3,m4⟩:=Xv hb l;obtain⟨u1,u2⟩:=Qm (s:=s) (l:=l);refine⟨Qs (λx=>?_) (UM _),Qs (λx=>?_) (UM _)⟩
 ·rw[u2,pJ];constructor
  ·(intro h;have h0:0<=x:=by rcases h with h|⟨_,_,h⟩;{exact h.1};{exact h.1});have:=hd x h;exact⟨x.toNat,by omega,by omega,(m4 x.toNat oM).2 (by grind)⟩
  grind
 {rw[u1,pJ];constructor;{intro h;obtain⟨g1,g2⟩:=h.rng;exact⟨x.toNat,by omega,by omega,(m3 x.toNat oM).2 (by grind)⟩};grind}
def pot (s:Scp) (M:List Int):Nat:=(((List.range s.lems.length).filter λn:Nat=>decide ((n:Int)∉M)).map λn:Nat=>(s.pfn n).length).sum
def HE {s:Scp}{M:List Int}{n:Int}(h0:0<=n)(h1:n<s.lems.length)(h:n∉M):pot s (n::M)+(s.pfn n).length=pot s M:=by
 unfold pot;obtain⟨k,rfl⟩:∃ k:Nat,n=k:=⟨n.toNat,by omega⟩;have hk:k<s.lems.length:=by omega
 have key:∀ (l:List Nat),l.Nodup->k∈l->((l.filter λx:Nat=>decide ((x:Int)∉(k:Int)::M)).map λn:Nat=>(s.pfn n).length).sum+(s.pfn k).length=((l.filter λx:Nat=>decide ((x:Int)∉M)).map λn:Nat=>(s.pfn n).length).sum:=by
  intro l;induction l with
  |nil=>grind| cons a r ih =>
   intro hn hm;obtain⟨g1,g2⟩:=Zc.1 hn;rcases yM.1 hm with rfl|hm;{grind [List.filter_congr]};grind
 grind
def wgt (s:Scp) (st:Ust):Nat:=st.1.length+pot s st.2
def oF {s:Scp}{U:List Mult->Ust->Ust}{f:Nat}(hU:∀ l a,um s a.2<f->wgt s (U l a)<=wgt s a+l.length){n:Int}{a:Ust}(hf:um s a.2<=f):wgt s (fT s U n a)<=wgt s a:=by unfold fT;split;{rename_i h;obtain⟨h0,h1,h2⟩:=h;have hu:=VZ h0 h1 h2;have hp:=HE h0 h1 h2;have:=hU (s.pfn n) (a.1,n::a.2) (by grind);have e1:wgt s (a.1,n::a.2)=a.1.length+pot s (n::a.2):=rfl;have e2:wgt s a=a.1.length+pot s a.2:=rfl;omega};omega
def Kq (d:Int)(D:List Int):(cG d D).length<=D.length+1:=by grind [cG]
def YC {s:Scp}{U:List Mult->Ust->Ust}{f:Nat}(hR:∀ l a,um s a.2<f->Run s l a (U l a))(hU:∀ l a,um s a.2<f->wgt s (U l a)<=wgt s a+l.length):∀ (l:List Mult) (a:Ust),um s a.2<=f->wgt s (Zf s U l a)<=wgt s a+l.length
 |[],a,_=>yC _| m::r,a,hf=>by
  (unfold Zf;have hb:wgt s (cG (s.rowD m.row) a.1,a.2)<=wgt s a+1:=by have:=Kq (s.rowD m.row) a.1;show (cG _ _).length+pot s a.2<=a.1.length+pot s a.2+1;omega);have h1:=oF hU (n:=m.row.lo-1) (a:=(cG (s.rowD m.row) a.1,a.2)) hf;have c1:=(mH hR (n:=m.row.lo-1) (a:=(cG (s.rowD m.row) a.1,a.2)) hf).1;generalize fT s U (m.row.lo-1) (cG (s.rowD m.row) a.1,a.2)=c at *;have ucb:um s c.2<=f:=vI (iY λn hn=>c1 n hn) hf;have h2:=oF hU (n:=m.row.hi-1) (a:=c) ucb;have d1:=(mH hR (n:=m.row.hi-1) (a:=c) ucb).1;generalize fT s U (m.row.hi-1) c=d at *;have h3:=YC hR hU r d (vI (iY d1) ucb);grind
def YF (s:Scp):∀ (f:Nat) (l:List Mult) (a:Ust),um s a.2<=f->wgt s (sN s f l a)<=wgt s a+l.length
 |0,l,a,h=>YC (f:=0) (λ_ _ h=>absurd h oM) (λ_ _ h=>absurd h oM) l a h| f+1,l,a,h=>YC (f:=f+1) (λl a h=>tU s f l a oM) (λl a h=>YF s f l a oM) l a h
def vol (s:Scp) (st:Ust):Nat:=st.2.length+um s st.2
def oG {s:Scp}{U:List Mult->Ust->Ust}{f:Nat}(hU:∀ l a,um s a.2<f->vol s (U l a)=vol s a){n:Int}{a:Ust}(hf:um s a.2<=f):vol s (fT s U n a)=vol s a:=by unfold fT;split;{rename_i h;obtain⟨h0,h1,h2⟩:=h;have hu:=VZ h0 h1 h2;rw[hU (s.pfn n) (a.1,n::a.2) (by grind)];show (n::a.2).length+um s (n::a.2)=a.2.length+um s a.2;grind};{rfl}
def Yo {s:Scp}{U:List Mult->Ust->Ust}{f:Nat}(hR:∀ l a,um s a.2<f->Run s l a (U l a)){n:Int}{a:Ust}(hf:um s a.2<=f):um s (fT s U n a).2<=f :=
 vI (iY λk hk=>(mH hR (n:=n) hf).1 k hk) hf
def YD {s:Scp}{U:List Mult->Ust->Ust}{f:Nat}(hR:∀ l a,um s a.2<f->Run s l a (U l a))(hU:∀ l a,um s a.2<f->vol s (U l a)=vol s a):∀ (l:List Mult) (a:Ust),um s a.2<=f->vol s (Zf s U l a)=vol s a
 |[],a,_=>rfl| m::r,a,hf=>by unfold Zf;have u1:um s ((cG (s.rowD m.row) a.1,a.2):Ust).2<=f:=hf;have u2:=Yo hR (n:=m.row.lo-1) u1;have u3:=Yo hR (n:=m.row.hi-1) u2;rw[YD hR hU r _ u3,oG hU u2,oG hU u1];rfl
def YG (s:Scp):∀ (f:Nat) (l:List Mult) (a:Ust),um s a.2<=f->vol s (sN s f l a)=vol s a
 |0,l,a,h=>YD (f:=0) (λ_ _ h=>absurd h oM) (λ_ _ h=>absurd h oM) l a h| f+1,l,a,h=>YD (f:=f+1) (λl a h=>tU s f l a oM) (λl a h=>YG s f l a oM) l a h
def rY {rs:List ResultVar}{r:PV}{ps ps':PS}{kept:List (Nat×Obj')}(hw:Wk ps ps')(h3:lv r=true)(h4:uJ id ps'.objs kept)(h5:ndO (z7 id kept)=true)(h6:XC id kept)(h:match fS ps' rs with
  |some l=>les (mC l) (ren id r)| none=>False):RetOk rs r kept [] ps:=by
 cases h1:fS ps' rs with
 |none=>grind| some l=>rw[h1] at h;exact⟨ps',l,id,hw,h1,dF h,h3,by grind,by grind,h6⟩
def bc (b:Bool):List PV:=[bV b]
def tF (b:Bool):yT qS (bc b)=true:=rfl
def iM (b:Bool):(bc b).length=1:=rfl
def ic (z:Int):List PV:=[iV z]
def kN (b:Int):yT qS (ic b)=true:=rfl
def fI (b:Int):(ic b).length=1:=rfl
abbrev zlv (l:List Int):PV:=.sl (λ_=>enc ic l)
def Rc:ty 49=.sli 1 8 [iV 0]:=by cbv
structure Psz (s:Scp):Prop where
 q:s.q.sz (2^31)
 p:Dsz (2^32) s.path
 v:s.q.valid=true
def oN {α:Type} (P:α->Bool) (i:Int) (l:List α):Int:=if uF P l<0 then -1 else uF P l+i
theorem Zy {α:Type}(P:α->Bool)(i:Int)(a:α)(r:List α):oN P i (a::r)=if P a=true then i else oN P (i+1) r:=by unfold oN;rw[show uF P (a::r)=if P a then 0 else if uF P r<0 then -1 else uF P r+1 from rfl];grind
def Zx {α:Type}(P:α->Bool)(l:List α):oN P 0 l=uF P l:=by unfold oN;have:=bQ P l;omega
def TG (s:Scp)(kind unit:Int)(hs:Psz s):zD 103 [sv s,iV kind,iV unit] (iV (s.fst kind unit)):=by
 refine sF Tryz.f103 ?_;have cf:∀ d,d∈s.path->zD 105 [qv s.q,dv d] (bV (d.fits s.q)):=λd h=>by have:=Hx s.q d hs.q (hs.p.sz d h);rw[hs.v,yL] at this;omega
 have hpl:=hs.p.len;generalize hr:s.fst kind unit=r;have hr0:r=oN (λd=>decide (d.k=kind)&&(decide (d.i=unit)&&d.fits s.q)) 0 (s.path.drop 0):=by rw[Zx];exact hr.symm
 obtain⟨ft,hft⟩:∃ ft:Dec->Bool,∀ d,ft d=d.fits s.q:=⟨_,λ_=>rfl⟩;simp only[<-hft] at cf hr0;obtain⟨P,hP⟩:∃ P:Dec->Bool,(λd=>decide (d.k=kind)&&(decide (d.i=unit)&&ft d))=P:=⟨_,rfl⟩;rw[hP] at hr0;have hPd:∀ d,P d=(decide (d.k=kind)&&(decide (d.i=unit)&&ft d)):=λd=>by grind
 obtain⟨X,hX⟩:∃ X:Int->List Dec->Int,∀ i l,X i l=oN P i l:=⟨_,λ_ _=>rfl⟩;have hXn:∀ i,X i []=-1:=λi=>by rw[hX];rfl
 have hXc:∀ i d r,X i (d::r)=if P d=true then i else X (i+1) r:=λi d r=>by grind [Zy]
 rw[<-hX] at hr0;clear hP hft hr hs hX;cbv;refine zW (σ:=Nat) (λi=>⟨[(1,iV kind),(2,iV unit),(3,.ptr 3 0),(7,iV i)],[(3,.box (sc s))]⟩) (λi=>i<=s.path.length/\r=X i (s.path.drop i)) (λi=>s.path.length-i) 0 ⟨by omega,hr0⟩ (wkZ) ?_;clear hr0;intro i hi;obtain⟨h1,h2⟩:=hi;cbv;refine zE (λh5=>?_) (λh5=>?_)
 ·have hlt:=vL h5;obtain⟨d,hd⟩:=zQ hlt;have cv:=cf d (z8 hd);rw[zT hd,hXc,hPd] at h2;generalize ft d=fd at *;cbv;refine zL 28 (by cbv) ?_;cbv;refine yE hd vN qE ?_;cbv;refine zO (λe1=>?_) (λe1=>?_)
  rotate_left
  {rw[decide_eq_false e1,qF,if_neg (by decide)] at h2;cbv;exact⟨zC om om,i+1,⟨om,h2⟩,om,wkZ⟩};rw[decide_eq_true e1,yL] at h2;cbv;refine yE hd vN qE ?_;cbv;refine zO (λe2=>?_) (λe2=>?_)
  rotate_left
  {rw[decide_eq_false e2,qF,if_neg (by decide)] at h2;cbv;exact⟨zC om om,i+1,⟨om,h2⟩,om,wkZ⟩};rw[decide_eq_true e2,yL] at h2;cbv;refine yE hd vN qE ?_;cbv;refine dA cv ?_;cbv;refine zN (λe3=>?_) (λe3=>?_)
  ·rw[if_pos e3] at h2;cbv
   (refine rC ?_;cbv)
   exact zB h2.symm
  {rw[if_neg (by grind)] at h2;cbv;exact⟨zC om om,i+1,⟨om,h2⟩,om,wkZ⟩}
 ·have he:=qD h5 h1;rw[he,x8,hXn] at h2;cbv
  (refine rC ?_;cbv)
  exact zB h2.symm
def Nc (s : Scp) (r : Row) (hs : Psz s) : zD 126 [sv s, rwv r] (iV (s.rowD r)) := by
  refine sF Tryz.f126 ?_
  have c1 := TG s 1 r.i hs
  have c2 := TG s 2 r.i hs
  have hr : s.rowD r = if r.k = 4 then r.i else if (r.k = 7 ∨ r.k = 8) ∧ r.lo = 0 then s.fst 1 r.i else if (r.k = 9 ∨ r.k = 10) ∧ r.hi = 0 then s.fst 2 r.i else -1 := rfl
  generalize s.rowD r = d at *
  generalize s.fst 1 r.i = f1 at *
  generalize s.fst 2 r.i = f2 at *
  obtain ⟨k, i, lo, hi⟩ := r
  dsimp only at *
  have rt : ∀ x : Int, x = d → LeS (iV x) (iV d) := fun x h => zB h
  clear hs
  cbv
  repeat' first
    | (refine zE (fun e => ?_) (fun e => ?_) <;> cbv)
    | ((refine rC ?_; cbv); refine rt _ ?_; rw [hr]; (try dsimp only [zV] at *); grind)
    | (exfalso; exact om)
    | (have g : k = 7 ∨ k = 8 := by exact om
       refine yP rfl okA c1 rfl ?_; cbv)
    | (have g : k = 9 ∨ k = 10 := by exact om
       refine yP rfl okA c2 rfl ?_; cbv)
def Hm (D:List Bool)(d:Int):kE D d=if 0<=d/\d<D.length then D.set d.toNat true else D:=rfl
theorem pM {D:List Bool}{d:Int}(h0:0<=d)(h1:d<D.length){k:Nat}(hk:k=d.toNat):(enc bc D).set k [.bool true]=enc bc (kE D d):=by rw[Hm,if_pos ⟨h0,h1⟩,<-s3,hk];rfl
theorem Ub {D:List Bool}{d:Int}(h:¬(0<=d/\d<D.length)):kE D d=D:=by rw[Hm,if_neg h]
abbrev bao (n:Nat) (l:List Bool):Nat×Obj':=(n,aV 1 (enc bc l))
def Nm (s : Scp) (l : List Mult) (st : Mst) (hs : Psz s) (hl : l.length < 2^38) (h1 : st.1.length < 2^38) (h2 : st.2.length < 2^38) :
    Sound 58 [sv s, mlv l, oV 1000000 1 st.1.length, oV 1000001 1 st.2.length] [bao 1000000 st.1, bao 1000001 st.2] []
      (.tup [oV 1000000 1 st.1.length, oV 1000001 1 st.2.length]) [bao 1000000 (sY s l st).1, bao 1000001 (sY s l st).2] [] := by
  refine sF Tryz.f58 ?_
  have cr := fun r => Nc s r hs
  obtain ⟨R, hR⟩ := ex s.rowD
  obtain ⟨W, hW⟩ := ex (sY s l st)
  obtain ⟨X, hX⟩ : ∃ X : List Mult → Mst → Mst, sY s = X := ⟨_, rfl⟩
  have hXn : ∀ st, X [] st = st := fun st => by rw [← hX]; rfl
  have hXc : ∀ m r st, X (m :: r) st = X r (kE st.1 (R m.row), kE (kE st.2 (m.row.lo - 1)) (m.row.hi - 1)) := fun m r st => by rw [← hX, ← hR]; rfl
  rw [hW]
  rw [hX] at hW
  rw [hR] at cr
  obtain ⟨W1, W2⟩ := W
  obtain ⟨D0, M0⟩ := st
  dsimp only at *
  clear hR hX hs
  cbv
  refine zW (σ := Nat × List Bool × List Bool) (fun x => ⟨[(1, mlv l), (2, oV 1000000 1 D0.length), (3, oV 1000001 1 M0.length), (4, .ptr 4 0), (10, iV x.1)], [bao 1000000 x.2.1, bao 1000001 x.2.2, (4, .box (sc s))]⟩)
    (fun x => x.1 ≤ l.length ∧ X (l.drop x.1) (x.2.1, x.2.2) = (W1, W2) ∧ x.2.1.length = D0.length ∧ x.2.2.length = M0.length) (fun x => l.length - x.1) (0, D0, M0) ⟨yY _, hW, rfl, rfl⟩ (wkZ) ?_
  clear hW
  intro x hx
  obtain ⟨i, D, M⟩ := x
  obtain ⟨g1, g2, g3, g4⟩ := hx
  dsimp only at g1 g2 g3 g4
  cbv
  refine zE (fun h5 => ?_) (fun h5 => ?_)
  · have hlt := vL h5
    obtain ⟨m, hm⟩ := zQ hlt
    rw [zT hm, hXc] at g2
    have c := cr m.row
    obtain ⟨⟨mk, mi, mlo, mhi⟩, mcf⟩ := m
    dsimp only at g2 c
    generalize R ⟨mk, mi, mlo, mhi⟩ = d at *
    have len1 := dU D d
    have JK := dU M (mlo - 1)
    have len3 := dU (kE M (mlo - 1)) (mhi - 1)
    have fD1 : ¬ (0 ≤ d ∧ d < D.length) → enc bc D = enc bc (kE D d) := fun h => by rw [Ub h]
    have fD2 : 0 ≤ d → d < D.length → (enc bc D).set (0 + d.toNat) [.bool true] = enc bc (kE D d) := fun h h' => pM h h' oM
    have fM1 : ¬ (0 ≤ mlo - 1 ∧ mlo - 1 < M.length) → ¬ (0 ≤ mhi - 1 ∧ mhi - 1 < M.length) → enc bc M = enc bc (kE (kE M (mlo - 1)) (mhi - 1)) := fun h h' => by grind [Ub]
    have fM2 : 0 ≤ mlo - 1 → mlo - 1 < M.length → ¬ (0 ≤ mhi - 1 ∧ mhi - 1 < M.length) → (enc bc M).set (0 + (mlo - 1).toNat) [.bool true] = enc bc (kE (kE M (mlo - 1)) (mhi - 1)) := fun h h' h'' => by grind [kE, pM]
    have fM3 : ¬ (0 ≤ mlo - 1 ∧ mlo - 1 < M.length) → 0 ≤ mhi - 1 → mhi - 1 < M.length → (enc bc M).set (0 + (mhi - 1).toNat) [.bool true] = enc bc (kE (kE M (mlo - 1)) (mhi - 1)) := fun h h' h'' => by grind [Ub, pM]
    have fM4 : 0 ≤ mlo - 1 → mlo - 1 < M.length → 0 ≤ mhi - 1 → mhi - 1 < M.length → ((enc bc M).set (0 + (mlo - 1).toNat) [.bool true]).set (0 + (mhi - 1).toNat) [.bool true] = enc bc (kE (kE M (mlo - 1)) (mhi - 1)) := fun h h' g g' => by rw [pM h h' (k := 0 + (mlo - 1).toNat) oM]; exact pM g (by rw [JK]; exact g') oM
    have hend : ∀ D' M' : List Bool, D' = kE D d → M' = kE (kE M (mlo - 1)) (mhi - 1) → (i + 1 ≤ l.length ∧ X (l.drop (i + 1)) (D', M') = (W1, W2) ∧ D'.length = D0.length ∧ M'.length = M0.length) := fun D' M' e1 e2 => by
      rw [e1, e2]
      exact ⟨hlt, g2, by omega, by omega⟩
    clear cr hXn hXc g2
    cbv
    refine yE hm wM xI ?_
    cbv
    refine cA c ?_
    cbv
    repeat' first
      | (refine zO (fun e => ?_) (fun e => ?_) <;> cbv)
      | (refine zE (fun e => ?_) (fun e => ?_) <;> cbv)
      | (refine ⟨zC om om, (i + 1, kE D d, kE (kE M (mlo - 1)) (mhi - 1)), hend _ _ rfl rfl, om, .le okZ ?_ rfl⟩
         cbv
         refine ⟨zG ?_, zG ?_, ?_⟩
         · first | exact fD1 om | exact fD2 om om
         · first | exact fM1 om om | exact fM2 om om om | exact fM3 om om om | exact fM4 om om om om
         · exact okZ)
      | (refine ⟨yX om om, tA (p := bc) D rfl d.toNat om om tF iM (fun a ha => ?_)⟩; cbv)
      | (refine ⟨zC om om, yX om om, tA (p := bc) M rfl _ rfl om tF iM (fun a ha => ?_)⟩; cbv)
      | (refine ⟨zC om om, yX om om, tA (p := bc) (kE M (mlo - 1)) (pM om om om) _ rfl om tF iM (fun a ha => ?_)⟩; cbv)
  · have hi : i = l.length := qD h5 g1
    subst hi
    rw [x8, hXn] at g2
    cases g2
    cbv
    refine rY (.refl _) rfl ⟨⟨rfl, rfl⟩, ⟨rfl, rfl⟩, trivial⟩ rfl ⟨⟨rfl, by decide⟩, ⟨rfl, by decide⟩, trivial⟩ ?_
    cbv
    exact okA
def T8 {rs:List ResultVar}{r:PV}{ps ps':PS}{made:List (Nat×Obj')}(hn:Nat->Nat)(hw:Wk ps ps')(h3:lv r=true)(h4:uJ hn ps'.objs made)(h5:ndO (z7 hn made)=true)(h:match fS ps' rs with
  |some l=>les (mC l) (ren hn r)| none=>False):RetOk rs r [] made ps:=by
 cases h1:fS ps' rs with
 |none=>grind| some l=>rw[h1] at h;exact⟨ps',l,hn,hw,h1,dF h,h3,h4,h5,trivial⟩
def Pf {s:Scp}{n:Nat}{m:Lem}(h:s.lems[n]?=some m):s.pfn n=m.pf:=by grind [Scp.pfn]
theorem H8 (n:Nat):List.replicate n [D.bool false]=enc bc (List.replicate n false):=by simp[enc,bc,xD,toD]
def Nk (s : Scp) (l : List Mult) (hs : Psz s) (hl : l.length < 2^38) (hL : s.lems.length < 2^38) (hpf : ∀ m, m ∈ s.lems → m.pf.length < 2^38) :
    Sound 15 [sv s, mlv l] [] [] (.tup [oV 100 1 s.path.length, oV 101 1 s.lems.length]) [] [bao 100 (s.marks l).1, bao 101 (s.marks l).2] := by
  refine sF Tryz.f15 ?_
  have hpl := hs.p.len
  have cm := fun l st h h1 h2 => Nm s l st hs h h1 h2
  have hml := fun l st => nK s l st
  obtain ⟨X, hX⟩ : ∃ X : List Mult → Mst → Mst, sY s = X := ⟨_, rfl⟩
  obtain ⟨G, hG⟩ : ∃ G : Nat → Mst → Mst, mG s = G := ⟨_, rfl⟩
  have hG0 : ∀ st, G 0 st = st := fun st => by rw [← hG]; rfl
  have hGs : ∀ n m st, s.lems[n]? = some m → G (n + 1) st = G n (if st.2.getD n false = true then X m.pf st else st) := fun n m st h => by rw [← hG, ← hX, ← Pf h]; rfl
  have hR : s.marks l = G s.lems.length (X l (List.replicate s.path.length false, List.replicate s.lems.length false)) := by rw [← hG, ← hX]; rfl
  obtain ⟨R, hRe⟩ := ex (s.marks l)
  rw [hRe] at hR ⊢
  rw [hX] at cm hml
  obtain ⟨st1, hst1⟩ := ex (X l (List.replicate s.path.length false, List.replicate s.lems.length false))
  have c1 := cm l (List.replicate s.path.length false, List.replicate s.lems.length false) hl (by grind) (by grind)
  have hl1 := hml l (List.replicate s.path.length false, List.replicate s.lems.length false)
  rw [hst1] at hR c1 hl1
  simp only [Gn] at c1 hl1
  obtain ⟨D1, M1⟩ := st1
  obtain ⟨RD, RM⟩ := R
  dsimp only at *
  generalize hD0 : List.replicate s.path.length false = D0 at *
  generalize hM0 : List.replicate s.lems.length false = M0 at *
  have e1 : ∀ n : Nat, n = s.path.length → List.replicate n [D.bool false] = enc bc D0 := fun n h => by grind [H8]
  have e2 : ∀ n : Nat, n = s.lems.length → List.replicate n [D.bool false] = enc bc M0 := fun n h => by grind [H8]
  clear hX hG hRe hst1 hs
  cbv
  refine s4 (σ := Unit) (fun _ => ⟨[(1, mlv l), (2, .ptr 2 0), (6, oV 12 1 s.path.length), (7, oV 16 1 s.lems.length)], [(2, .box (sc s)), bao 12 D0, bao 16 M0]⟩) (fun _ => True) (.refl _) (by cbv) ?_ ?_
  · cbv
    repeat' first
      | exact trivial
      | (refine ⟨(), trivial, .le ?_ ?_ rfl⟩
         · cbv; exact ⟨lR, lR, z4 rfl (by simp [zA]), z4 rfl (by simp [zA]), trivial⟩
         · cbv; refine ⟨?_, zG (e1 _ (by simp [zA])), zG (e2 _ (by simp [zA])), trivial⟩; repeat' first | exact trivial | exact lR | apply And.intro)
      | (refine ⟨z6 (by simp [zA] <;> omega) (by simp only [zA]; exact om), kM (by simp [zA] <;> omega) (by simp [zA]), ?_⟩; cbv)
      | apply And.intro
  intro _ _
  cbv
  refine cZ Mw (.refl _) rfl (by exact ⟨by repeat' first | exact trivial | exact lR | apply And.intro, lR, lR, lR, trivial⟩) c1 okR rfl rfl rfl rfl rfl rfl rfl rfl ?_
  cbv
  clear c1 e1 e2 hD0 hM0
  obtain ⟨hl1, hl2⟩ := hl1
  refine ⟨zC (by rw [zA]; exact om) (by rw [zA]; exact om), ?_⟩
  refine zW (σ := Nat × List Bool × List Bool) (fun x => ⟨[(2, .ptr 2 0), (6, oV 12 1 s.path.length), (7, oV 16 1 s.lems.length), (8, iV (((x.1 : Nat) : Int) - 1))], [(2, .box (sc s)), bao 12 x.2.1, bao 16 x.2.2]⟩)
    (fun x => x.1 ≤ s.lems.length ∧ G x.1 (x.2.1, x.2.2) = (RD, RM) ∧ x.2.1.length = s.path.length ∧ x.2.2.length = s.lems.length) (fun x => x.1) (s.lems.length, D1, M1) ⟨yC _, hR.symm, hl1, hl2⟩ (.le ?_ okZ rfl) ?_
  · cbv; exact ⟨lR, lR, lR, zB (by rw [zA]), trivial⟩
  clear hR hl1 hl2
  intro x hx
  obtain ⟨n, D, M⟩ := x
  obtain ⟨g1, g2, g3, g4⟩ := hx
  dsimp only at g1 g2 g3 g4
  cbv
  refine zE (fun h5 => ?_) (fun h5 => ?_)
  · obtain ⟨k, rfl⟩ : ∃ k, n = k + 1 := ⟨n - 1, by exact om⟩
    obtain ⟨m, hm⟩ := zQ (l := s.lems) (i := k) oM
    have hpm := hpf m (z8 hm)
    rw [hGs k m _ hm] at g2
    have c := cm m.pf (D, M) hpm (by grind) (by grind)
    have ml := hml m.pf (D, M)
    generalize X m.pf (D, M) = Y at *
    obtain ⟨D', M'⟩ := Y
    dsimp only at g2 c ml
    rw [g3, g4] at c
    cbv
    refine ⟨yX om om, tA (p := bc) M rfl k om om tF iM (fun b hb => ?_)⟩
    have hb' : M.getD k false = b := by grind
    rw [hb'] at g2
    cbv
    refine zN (fun e => ?_) (fun e => ?_)
    · rw [if_pos e] at g2
      cbv
      refine s4 (σ := Unit) (fun _ => ⟨[(2, .ptr 2 0), (6, oV 12 1 s.path.length), (7, oV 16 1 s.lems.length), (8, iV (((k + 1 : Nat) : Int) - 1))], [(2, .box (sc s)), bao 12 D', bao 16 M']⟩) (fun _ => True) (.refl _) (by cbv) ?_ ?_
      · cbv
        repeat' first
          | exact trivial
          | exact ⟨(), trivial, wkZ⟩
          | (refine ⟨yX om om, tA (p := bc) M rfl k om om tF iM (fun b hb => ?_)⟩; cbv)
          | (refine xG hm rfl yR y4 ?_; cbv)
          | (refine xG hm om yR y4 ?_; cbv)
          | (refine cZ Mw (.refl _) rfl (by exact ⟨by repeat' first | exact trivial | exact lR | apply And.intro, lR, lR, lR, trivial⟩) c okR rfl rfl rfl rfl rfl rfl rfl rfl ?_; cbv)
          | apply And.intro
      · intro _ _
        cbv
        exact ⟨zC om om, (k, D', M'), ⟨oM, g2, (by grind), (by grind)⟩, om, wkZ⟩
    · rw [if_neg (by grind)] at g2
      cbv
      exact ⟨zC om om, (k, D, M), ⟨oM, g2, g3, g4⟩, om, wkZ⟩
  · have hn : n = 0 := by exact om
    subst hn
    rw [hG0] at g2
    cases g2
    cbv
    refine T8 (fun n => match nqb n 100 with | true => 12 | false => 16) (.refl _) rfl ⟨⟨rfl, rfl⟩, ⟨rfl, rfl⟩, trivial⟩ rfl ?_
    cbv
    exact okA
theorem G6 (l:List Bool)(i:Nat)(h:i<l.length):((List.range (i+1)).filter λk=>l.getD k false).map (λk:Nat=>(k:Int))=((List.range i).filter λk=>l.getD k false).map (λk:Nat=>(k:Int))++(if l.getD i false=true then [(i:Int)] else []):=by rw[List.range_succ,List.filter_append,gV];grind
def nQ (l:List Bool)(i:Nat):(((List.range i).filter λk=>l.getD k false).map (λk:Nat=>(k:Int))).length<=i:=by grind
def Nt (l:List Bool)(hl:l.length<2^38):zD 17 [.sl (λ_=>enc bc l)] (zlv (w9 l)):=by
 refine sF Tryz.f17 ?_;obtain⟨J,hJ⟩:∃ J:Nat->List Int,∀ i,J i=((List.range i).filter λk=>l.getD k false).map (λk:Nat=>(k:Int)):=⟨_,λ_=>rfl⟩;have hJ0:J 0=[]:=by grind
 have hJs:∀ i,i<l.length->J (i+1)=J i++(if l.getD i false=true then [(i:Int)] else []):=λi h=>by grind [G6]
 have hJl:∀ i,(J i).length<=i:=λi=>by grind
 have hR:w9 l=J l.length:=by rw[hJ];rfl
 rw[hR];clear hJ hR;cbv;refine zW (σ:=Nat) (λi=>⟨[(0,.sl (λ_=>enc bc l)),(3,oV 3 1 ((J i).length)),(4,iV i)],[(3,aV 1 (enc ic (J i)))]⟩)
  (λi=>i<=l.length) (λi=>l.length-i) 0 (yY _) (.trans (.adoptT 3 1 3 rfl rfl) (.le ?_ ?_ rfl)) ?_
 {cbv;exact⟨lR,z4 rfl (by grind),lR,trivial⟩};{cbv;exact⟨zG (by rw[hJ0];rfl),trivial⟩};intro i hi;cbv;refine zE (λh5=>?_) (λh5=>?_);{have hlt:=vL h5;obtain⟨b,hb⟩:=zQ hlt;have hs:=hJs i hlt;have hln:=hJl i;rw[show l.getD i false=b by grind] at hs;generalize hA:J i=A at *;cbv;refine yE hb tF iM ?_;cbv;refine zN (λe=>?_) (λe=>?_);{rw[if_pos e] at hs;cbv;refine vM Rc rfl rfl rfl (by rw[zA]) rfl ⟨by simp[zS,xD]⟩ (z6 oM (by simp[zS,zA] at *;exact om)) rfl ?_;cbv;refine⟨zC om om,i+1,(show i+1<=_ by omega),om,.le ?_ ?_ rfl⟩;{cbv;exact⟨lR,z4 rfl (by rw[hs,zA];simp[zS]),zB om,trivial⟩};{cbv;exact⟨zG (by rw[hs,<-qK];rfl),trivial⟩}};{rw[if_neg (by grind),kF] at hs;cbv;refine⟨zC om om,i+1,(show i+1<=_ by omega),om,.le ?_ ?_ rfl⟩;{cbv;exact⟨lR,z4 rfl (by rw[hs]),zB om,trivial⟩};{cbv;exact⟨zG (by rw[hs]),trivial⟩}}};{have hi':=qD h5 hi;subst hi';generalize J l.length=A at *;cbv;refine aI _ (.trans (Wk.sel _ [2] [3] rfl) (.frz 3 rfl rfl ?_ ?_)) rfl ?_;{cbv;exact⟨z5 (by simp[zA]),trivial⟩};{cbv};cbv;exact zR (by rw[wN,yW (by simp[zA])])}
end Go.Proofs.YtaeaffgjdcigoaaGreat
