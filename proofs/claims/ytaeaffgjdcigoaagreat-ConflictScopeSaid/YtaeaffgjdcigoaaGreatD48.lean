/- A part of the proof: KpN. -/
import Derived.Test.YtaeaffgjdcigoaaGreatD47
set_option linter.all false
namespace Go.Proofs.YtaeaffgjdcigoaaGreat
open Go
def uk (d:Dec):Prop:=d.k=1\/d.k=2
structure UD (q:Qry) (p:List Dec):Prop where
 f:∀ d,d∈p->uk d->d.fits q=true
 d:p.Pairwise λa b=>uk a->uk b->a.i≠b.i
theorem UD.nil (q:Qry):UD q []:=⟨λd hd=>absurd hd (by simp),List.Pairwise.nil⟩
theorem UD.snoc {q:Qry}{p:List Dec}{d:Dec}(h:UD q p)(hd:uk d->d.fits q=true/\∀ e,e∈p->uk e->e.i≠d.i):UD q (p++[d]):=by refine⟨λe he hk=>?_,List.pairwise_append.2 ⟨h.d,by simp,λa ha b hb ka kb=>?_⟩⟩;{rcases qH.1 he with g|g;{exact h.f e g hk};grind};grind
theorem UD.free {s:Scp}(h:UD s.q s.path){u:Int}(h1:s.dcd 1 u=false)(h2:s.dcd 2 u=false):∀ e,e∈s.path->uk e->e.i≠u:=λe he hk hu=>by
 have hf:=h.f e he hk;unfold Scp.dcd at h1 h2;rw[List.any_eq_false] at h1 h2;rcases hk with k|k
 all_goals grind
def VE {q:Qry}{k i:Int}(hk:k=1\/k=2)(h:0<=i/\i<q.g.us.length):(⟨k,i,R0⟩:Dec).fits q=true:=by unfold Dec.fits;grind
def oQ {raw:List UInt8}{q:Qry}{n m:Nat}(hm:q.g.us.length=m):∀ {k a:Nat} {p:List Dec},UD q p->UD q (tO raw q n m k p a)
 |0,a,p,h=>h| k+1,a,p,h=>by have h4:=qZ (raw:=raw) (n:=4) (a:=a) (by decide);unfold tO;dsimp only;split;{rename_i hk;refine oQ hm (h.snoc λg=>?_);grind [uk]};{split;{exact oQ hm h};{split;{exact oQ hm h};{rename_i h1 h2 h3;have hi:=qZ (raw:=raw) (n:=m) (a:=na raw a) oM;refine oQ hm (h.snoc λg=>⟨VE g ⟨by (try dsimp only);omega,by (try dsimp only);omega⟩,?_⟩);exact UD.free (s:=⟨q,p,[]⟩) h (by grind) (by grind)}}}
theorem rX (n:Nat):∀ (us:List A) (j:Nat) (s:Scp),(runG n us j s).path=s.path/\(runG n us j s).q=s.q
 |[],_,_=>⟨rfl,rfl⟩| p::r,j,s=>rX n r (j+1) _
def Uu {n:Nat}:∀ {k j:Nat} {s:Scp},j+k<=s.q.g.us.length->UD s.q s.path->UD (opnG n k j s).q (opnG n k j s).path
 |0,j,s,_,h=>h| k+1,j,s,hj,h=>by unfold opnG;split;{rename_i hc;refine Uu (k:=k) (s:=⟨s.q,s.path++[⟨1+((n+7*j)%4:Nat),j,R0⟩],s.lems⟩) (by show j+1+k<=s.q.g.us.length;omega) ?_;refine UD.snoc h λg=>⟨VE g ⟨by (try dsimp only);omega,by (try dsimp only);omega⟩,?_⟩;have ho:=hc.1;unfold Scp.opn at ho;simp only[yZ,Ws,Gr] at ho;exact h.free ho.1.1 ho.2.1};{exact Uu oM h}
def PW (raw:List UInt8):UD (clo raw).q (clo raw).path:=by
 have h0:UD (fdS raw).q (fdS raw).path:=oQ (by show ((fdY raw 0).1.g.us.map fA).length=_;simp) (UD.nil _);have h1:UD (ext raw).q (ext raw).path:=by unfold ext;split;{exact h0};omega
 have h2:UD (dvd raw).q (dvd raw).path:=by unfold dvd;split;{obtain⟨e1,e2⟩:=rX (y8 raw%5) (ext raw).q.g.us 0 (ext raw);grind [Scp.run]};omega
 have h3:UD ((dvd raw).run (y8 raw%3)).q ((dvd raw).run (y8 raw%3)).path:=by grind [rX,Scp.run]
 have h4:=Uu (n:=y8 raw) (k:=((dvd raw).run (y8 raw%3)).q.g.us.length) (j:=0) (s:=(dvd raw).run (y8 raw%3)) oM h3;have h5:UD (jS raw).q (jS raw).path:=by unfold jS;dsimp only;split;{unfold Scp.run;rw[(rX 1 _ 0 _).1,(rX 1 _ 0 _).2];exact h4};{exact h4}
 exact⟨λd hd hk=>(h5.f d hd hk:_),h5.d⟩
def PT (raw:List UInt8):(clo raw).path.Pairwise λa b=>uk a->uk b->a.i≠b.i:=(PW raw).d
def UI {s:Scp}:∀ {D:List Int} {acc ls:List y5},lgo s D acc=some ls->(∀ k,k∈D->uk (s.dec k))/\ls.map Prod.fst=acc.map Prod.fst++D.map λk=>(s.dec k).i
 |[],acc,ls,h=>by cases h;grind
 |k::r,acc,ls,h=>by unfold lgo at h;unfold pF at h;by_cases hk:(s.dec k).k=1\/(s.dec k).k=2;{rw[if_pos hk] at h;obtain⟨i1,i2⟩:=UI h;refine⟨λj hj=>?_,by grind⟩;rcases yM.1 hj with rfl|g;{exact hk};grind};grind
def GS {s:Scp}(hp:s.path.Pairwise λa b=>uk a->uk b->a.i≠b.i){l:List Mult}(hl:(s.marks l).1.length=s.path.length){ls:List y5}(h:lgo s (w9 (s.marks l).1) []=some ls):ls.Pairwise λa b=>a.1≠b.1:=by
 obtain⟨h1,h2⟩:=UI h;have h3:(ls.map Prod.fst).Pairwise (·≠·):=by
  (rw[h2,Wo,KP,List.pairwise_map];refine (UM (s.marks l).1).imp_of_mem λ{a b} ha hb hab=>?_;obtain⟨j,rfl,g1,_⟩:=pJ.1 ha;obtain⟨k,rfl,g2,_⟩:=pJ.1 hb;have ka:=h1 _ ha;have kb:=h1 _ hb;have ea:s.dec (j:Int)=s.path[j]'oM:=by unfold Scp.dec;grind);have eb:s.dec (k:Int)=s.path[k]'oM:=by unfold Scp.dec;grind
  grind [List.pairwise_iff_getElem]
 grind
end Go.Proofs.YtaeaffgjdcigoaaGreat
