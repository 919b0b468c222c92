/- A part of the proof: PlD, LwC, BrA, BrB, SpA, SpB. -/
import Derived.Test.YtgcpehdkdnkgeaaGreatV30
import Derived.Test.YtgcpehdkdnkgeaaGreatV24
import Derived.Test.YtgcpehdkdnkgeaaGreatRows
import Derived.Deep.Slices
import Derived.Deep.Strs
import Derived.Lib.SmallJoins
import Derived.KernelRfl
import Derived.ProofKit
import Derived.OpenShut
import Derived.ReadAgain
import Derived.ChangeStays
import Derived.Test.YtgcpehdkdnkgeaaGreatV29
import Derived.Test.YtgcpehdkdnkgeaaGreatV23
set_option linter.all false
namespace Go.Proofs.YtgcpehdkdnkgeaaGreat
open Go
set_option maxRecDepth 100000
set_option maxHeartbeats 2000000
theorem zCT (a b:Row):yF a b=true↔(a.k<b.k∨(a.k=b.k∧(a.i<b.i∨(a.i=b.i∧(a.lo<b.lo∨(a.lo=b.lo∧a.hi<b.hi)))))):=by
 unfold yF
 split
 ·split
  ·split
   ·simp only[decide_eq_true_eq];omega
   ·simp only[decide_eq_true_eq];omega
  ·simp only[decide_eq_true_eq];omega
 ·simp only[decide_eq_true_eq];omega
theorem kN {a:Row}(h:yF a a=true):False:=by rw[zCT] at h;omega
theorem kM {a b c:Row}(h:yF a b=true)(g:yF b c=true):yF a c=true:=by rw[zCT] at *;omega
theorem i9 (a b:Row):yF a b=true∨a=b∨yF b a=true:=by
 rw[zCT,zCT]
 obtain⟨a1,a2,a3,a4⟩:=a
 obtain⟨b1,b2,b3,b4⟩:=b
 simp only[Row.mk.injEq]
 omega
theorem aN {a b c:Row}(h:¬ yF b a=true)(g:yF b c=true):yF a c=true:=by
 rcases i9 a b with e | e | e
 ·exact kM e g
 ·rw[e];exact g
 ·exact absurd e h
theorem fH {a b c:Row}(h:yF a b=true)(g:¬ yF c b=true):yF a c=true:=by
 rcases i9 b c with e | e | e
 ·exact kM h e
 ·rw[←e];exact h
 ·exact absurd e g
structure Rs (l:List (Row × Rat)):Prop where
 s:l.Pairwise (fun a b=>yF a.1 b.1=true)
 p:∀ t,t∈l→0<t.2
theorem Rs.nil:Rs []:=⟨.nil,by simp⟩
theorem Rs.tail {t l}(h:Rs (t::l)):Rs l:=⟨(List.pairwise_cons.1 h.s).2,fun u hu=>h.p u (List.mem_cons_of_mem _ hu)⟩
theorem Rs.lt {t l}(h:Rs (t::l)):∀ u,u∈l→yF t.1 u.1=true:=(List.pairwise_cons.1 h.s).1
theorem Rs.hd {t l}(h:Rs (t::l)):0<t.2:=h.p t List.mem_cons_self
theorem Rs.cons {t l}(h:Rs l)(h1:∀ u,u∈l→yF t.1 u.1=true)(h2:0<t.2):Rs (t::l) :=
 ⟨List.pairwise_cons.2 ⟨h1,h.s⟩,fun u hu=>by rcases List.mem_cons.1 hu with rfl | hu <;> first | exact h2 | exact h.p u hu⟩
def cor:List (Row × Rat)→Row→Rat
 | [],_=>0
 | t::r,w=>(if t.1=w then t.2 else 0)+cor r w
theorem oP {l:List (Row × Rat)}{w:Row}(h:∀ t,t∈l→t.1≠w):cor l w=0:=by
 induction l with
 | nil=>rfl
 | cons t r ih =>
  simp only[cor,if_neg (h t List.mem_cons_self),ih fun u hu=>h u (List.mem_cons_of_mem _ hu)]
  grind
theorem sB {t:Row × Rat}{l}(h:Rs (t::l)):cor (t::l) t.1=t.2:=by
 simp only[cor,if_true,oP fun u hu e=>kN (e ▸ h.lt u hu)]
 grind
theorem Rs.ext:∀ {l m:List (Row × Rat)},Rs l→Rs m→(∀ w,cor l w=cor m w)→l=m
 | [],[],_,_,_=>rfl
 | [],b::m,_,hm,h=>by
  have:=h b.1
  rw[sB hm] at this
  have h2:=hm.hd
  simp only[cor] at this
  grind
 | a::l,[],hl,_,h=>by
  have:=h a.1
  rw[sB hl] at this
  have h2:=hl.hd
  simp only[cor] at this
  grind
 | a::l,b::m,hl,hm,h=>by
  have h1:a.1=b.1:=by
   rcases i9 a.1 b.1 with c | c | c
   ·have:=h a.1
    rw[sB hl,oP (l:=b::m) (fun t ht e=>by
     rcases List.mem_cons.1 ht with rfl | ht
     ·rw[e] at c;exact kN c
     ·have g:=kM c (hm.lt t ht)
      rw[e] at g;exact kN g)] at this
    have h2:=hl.hd
    grind
   ·exact c
   ·have:=h b.1
    rw[sB hm,oP (l:=a::l) (fun t ht e=>by
     rcases List.mem_cons.1 ht with rfl | ht
     ·rw[e] at c;exact kN c
     ·have g:=kM c (hl.lt t ht)
      rw[e] at g;exact kN g)] at this
    have h2:=hm.hd
    grind
  have h2:a.2=b.2:=by
   have:=h a.1
   rw[sB hl,h1,sB hm] at this
   exact this
  have h3:a=b:=Prod.ext h1 h2
  subst h3
  congr 1
  refine Rs.ext hl.tail hm.tail fun w=>?_
  have:=h w
  simp only[cor] at this
  grind
def jM:List Mult→Row→Rat
 | [],_=>0
 | m::r,w=>(if m.row=w then m.c.q else 0)+jM r w
theorem zEE (l m:List Mult)(w:Row):jM (l++m) w=jM l w+jM m w:=by
 induction l with
 | nil=>simp only[List.nil_append,jM];grind
 | cons a r ih=>simp only[List.cons_append,jM,ih];grind
theorem zKJ (l:List Mult)(w:Row):jM l.reverse w=jM l w:=by
 induction l with
 | nil=>rfl
 | cons a r ih=>simp only[List.reverse_cons,zEE,ih,jM];grind
theorem zA4 (x:Mult)(w:Row):∀ l,jM (j5 x l) w=(if x.row=w then x.c.q else 0)+jM l w
 | []=>rfl
 | y::r=>by
  unfold j5
  split
  ·simp only[jM,zA4 x w r];grind
  ·simp only[jM]
theorem zKK (l:List Mult)(w:Row):jM (isr l) w=jM l w:=by
 have:∀ (l a:List Mult),jM (l.foldl (fun a x=>j5 x a) a) w=jM a w+jM l w:=by
  intro l
  induction l with
  | nil=>intro a;simp only[List.foldl_nil,jM];grind
  | cons x r ih=>intro a;rw[List.foldl_cons,ih,zA4];simp only[jM];grind
 unfold isr
 rw[this]
 simp only[jM]
 grind
theorem f9 (a b:Row):xP a b<0↔yF a b=true:=by rw[zAK,decide_eq_true_eq]
theorem nW {x:Mult}:∀ {l:List Mult},l.Pairwise (fun a b=>¬ yF a.row b.row=true)→(j5 x l).Pairwise (fun a b=>¬ yF a.row b.row=true)
 | [],_=>List.pairwise_singleton _ _
 | y::r,h=>by
  obtain⟨h1,h2⟩:=List.pairwise_cons.1 h
  unfold j5
  split
  ·rename_i hc
   rw[f9] at hc
   refine List.pairwise_cons.2 ⟨fun z hz=>?_,nW h2⟩
   rcases oA hz with rfl | hz
   ·exact fun g=>kN (kM hc g)
   ·exact h1 z hz
  ·rename_i hc
   rw[f9] at hc
   refine List.pairwise_cons.2 ⟨fun z hz=>?_,h⟩
   rcases List.mem_cons.1 hz with rfl | hz
   ·exact hc
   ·exact fun g=>hc (fH g (h1 z hz))
theorem eX (l:List Mult):(isr l).reverse.Pairwise (fun a b=>¬ yF b.row a.row=true):=by
 rw[List.pairwise_reverse]
 have:∀ (l a:List Mult),a.Pairwise (fun a b=>¬ yF a.row b.row=true)→(l.foldl (fun a x=>j5 x a) a).Pairwise (fun a b=>¬ yF a.row b.row=true):=by
  intro l
  induction l with
  | nil=>intro a h;exact h
  | cons x r ih=>intro a h;exact ih _ (nW h)
 exact this l [] .nil
theorem lQ {q:Rat}:0<yB q↔0<q:=by unfold yB;split <;> (try split) <;> grind
theorem zGO {q:Rat}:yB q<0↔q<0:=by unfold yB;split <;> (try split) <;> grind
theorem mK {q:Rat}:yB q=0↔q=0:=by unfold yB;split <;> (try split) <;> grind
theorem zED {r:Row}{q:Rat}(hq:0≤q)(rest:List (Row × Rat))(w:Row):cor (b8 r q rest) w=(if r=w then q else 0)+cor rest w:=by
 unfold b8
 split
 ·rfl
 ·rename_i h
  rw[lQ] at h
  have:q=0:=by grind
  rw[this]
  split <;> grind
theorem oQ (w:Row):∀ {L:List Mult} {r:Row} {q:Rat},0≤q→(∀ m,m∈L→0≤m.c.q)→cor (dG r q L) w=(if r=w then q else 0)+jM L w
 | [],r,q,hq,_=>by
  show cor (b8 r q []) w=_
  rw[zED hq]
  rfl
 | m::t,r,q,hq,hL=>by
  have hm:=hL m List.mem_cons_self
  have ht:=fun u hu=>hL u (List.mem_cons_of_mem _ hu)
  unfold dG
  split
  ·rename_i e
   rw[oQ w (by grind) ht]
   simp only[jM,e]
   split <;> grind
  ·rw[zED hq,oQ w (by grind) ht]
   simp only[jM]
   grind
theorem zGV {r:Row}{q:Rat}{rest:List (Row × Rat)}(h:Rs rest)(h1:∀ u,u∈rest→yF r u.1=true):Rs (b8 r q rest):=by
 unfold b8
 split
 ·rename_i hp;exact h.cons h1 (lQ.1 hp)
 ·exact h
theorem zBU:∀ {L:List Mult} {r:Row} {q:Rat},L.Pairwise (fun a b=>¬ yF b.row a.row=true)→(∀ m,m∈L→¬ yF m.row r=true)→Rs (dG r q L)∧∀ t,t∈dG r q L→¬ yF t.1 r=true
 | [],r,q,_,_=>by
  refine⟨zGV Rs.nil (by simp),fun t ht=>?_⟩
  have ht':t∈b8 r q []:=ht
  unfold b8 at ht'
  split at ht'
  ·have:t=(r,q):=by simpa using ht'
   rw[this];exact fun h=>kN h
  ·exact absurd ht' (by simp)
 | m::t,r,q,hs,hr=>by
  obtain⟨h1,h2⟩:=List.pairwise_cons.1 hs
  have hm:=hr m List.mem_cons_self
  unfold dG
  split
  ·exact zBU h2 (fun u hu=>hr u (List.mem_cons_of_mem _ hu))
  ·rename_i e
   obtain⟨g1,g2⟩:=zBU (r:=m.row) (q:=0+m.c.q) h2 h1
   have hlt:yF r m.row=true:=by
    rcases i9 r m.row with c | c | c
    ·exact c
    ·exact absurd c.symm e
    ·exact absurd c hm
   have g3:∀ u,u∈dG m.row (0+m.c.q) t→yF r u.1=true:=fun u hu=>fH hlt (g2 u hu)
   refine⟨zGV g1 g3,fun u hu=>?_⟩
   unfold b8 at hu
   split at hu
   ·rcases List.mem_cons.1 hu with rfl | hu
    ·exact fun h=>kN h
    ·exact fun h=>kN (kM h (g3 u hu))
   ·exact fun h=>kN (kM h (g3 u hu))
theorem zQ6 {L:List Mult}(hs:L.Pairwise (fun a b=>¬ yF b.row a.row=true)):Rs (grp L):=by
 cases L with
 | nil=>exact Rs.nil
 | cons m t=>exact (zBU (r:=m.row) (q:=0) hs (fun u hu=>by
   rcases List.mem_cons.1 hu with rfl | hu
   ·exact fun h=>kN h
   ·exact (List.pairwise_cons.1 hs).1 u hu)).1
theorem zOK {L:List Mult}(hL:∀ m,m∈L→0≤m.c.q)(w:Row):cor (grp L) w=jM L w:=by
 cases L with
 | nil=>rfl
 | cons m t =>
  show cor (dG m.row 0 (m::t)) w=_
  rw[oQ w (by grind) hL]
  split <;> grind
theorem zHJ (r:Row)(q:Rat)(w:Row):∀ l,cor (plM r q l) w=(if r=w then q else 0)+cor l w
 | []=>by simp only[plM,cor]
 | t::rest=>by
  unfold plM
  split
  ·simp only[cor,zHJ r q w rest];grind
  ·split
   ·rename_i e
    simp only[cor,e]
    split <;> grind
   ·simp only[cor]
theorem zGZ {r:Row}{q:Rat}:∀ {l:List (Row × Rat)} {u},u∈plM r q l→u.1=r∨∃ t,t∈l∧t.1=u.1
 | [],u,h=>by
  have:u=(r,q):=by simpa [plM] using h
  rw[this];exact .inl rfl
 | t::rest,u,h=>by
  unfold plM at h
  split at h
  ·rcases List.mem_cons.1 h with rfl | h
   ·exact .inr ⟨u,List.mem_cons_self,rfl⟩
   ·rcases zGZ h with h | ⟨v,h1,h2⟩
    ·exact .inl h
    ·exact .inr ⟨v,List.mem_cons_of_mem _ h1,h2⟩
  ·split at h
   ·rcases List.mem_cons.1 h with rfl | h
    ·exact .inl rfl
    ·exact .inr ⟨u,List.mem_cons_of_mem _ h,rfl⟩
   ·rcases List.mem_cons.1 h with rfl | h
    ·exact .inl rfl
    ·exact .inr ⟨u,h,rfl⟩
theorem zLA {r:Row}{q:Rat}(hq:0<q):∀ {l:List (Row × Rat)},Rs l→Rs (plM r q l)
 | [],_=>Rs.nil.cons (by simp) hq
 | t::rest,h=>by
  unfold plM
  split
  ·rename_i hlt
   refine (zLA hq h.tail).cons (fun u hu=>?_) h.hd
   rcases zGZ hu with e | ⟨v,h1,h2⟩
   ·rw[e];exact hlt
   ·rw[←h2];exact h.lt v h1
  ·rename_i hlt
   split
   ·rename_i e
    have:=h.hd
    exact h.tail.cons (fun u hu=>by rw[←e];exact h.lt u hu) (by show 0<t.2+q;grind)
   ·rename_i e
    have hlt':yF r t.1=true:=by
     rcases i9 r t.1 with c | c | c
     ·exact c
     ·exact absurd c.symm e
     ·exact absurd c hlt
    refine h.cons (fun u hu=>?_) hq
    rcases List.mem_cons.1 hu with rfl | hu
    ·exact hlt'
    ·exact kM hlt' (h.lt u hu)
theorem zGY {l:List (Row × Rat)}{r:Row}{q:Rat}(h:Rs l)(hq:0≤q):Rs (plMq l r q):=by
 unfold plMq
 split
 ·exact h
 ·rename_i e
  rw[mK] at e
  exact zLA (by grind) h
theorem zKI (l:List (Row × Rat))(r:Row)(q:Rat)(w:Row):cor (plMq l r q) w=(if r=w then q else 0)+cor l w:=by
 unfold plMq
 split
 ·rename_i e
  rw[mK] at e
  rw[e]
  split <;> grind
 ·exact zHJ r q w l
theorem mD:∀ {l:List (Row × Rat)} {p:Option Row},Rs l→(∀ w,p=some w→∀ t,t∈l→yF w t.1=true)→v6 p (mR l)=true
 | [],p,_,_=>by cases p <;> rfl
 | t::r,none,h,hp=>by
  show (decide (0<yB (zJ t.2).q) && ((zJ t.2).ok && (true && v6 (some t.1) (mR r))))=true
  rw[z9,sO,decide_eq_true (lQ.2 h.hd),mD h.tail (fun w e u hu=>by cases e;exact h.lt u hu)]
  rfl
 | t::r,some w,h,hp=>by
  show (decide (0<yB (zJ t.2).q) && ((zJ t.2).ok && (decide (xP w t.1<0) && v6 (some t.1) (mR r))))=true
  rw[z9,sO,decide_eq_true (lQ.2 h.hd),mD h.tail (fun w e u hu=>by cases e;exact h.lt u hu),decide_eq_true ((f9 _ _).2 (hp w rfl t List.mem_cons_self))]
  rfl

abbrev InW (w:World) (b i:Nat):Prop:=b<w.heap.size
def Cs (w:World):List Value→List D→Prop
 | [],[]=>True
 | v::vs,d::ds=>(RepD w (InW w) v d∧v.oneCell'=true)∧Cs w vs ds
 | _,_=>False
theorem Cs.app {w}:∀ {a x b y},Cs w a x→Cs w b y→Cs w (a++b) (x++y)
 | [],[],_,_,_,h=>h
 | _::_,_::_,_,_,h,g=>⟨h.1,Cs.app h.2 g⟩
theorem Cs.len {w}:∀ {a x},Cs w a x→a.length=x.length
 | [],[],_=>rfl
 | _::_,_::_,h=>by simp [Cs.len h.2]
theorem Cs.get {w}:∀ {a x},Cs w a x→∀ j,j<x.length→RepD w (InW w) (a.getD j undef) (x.getD j .any)∧(a.getD j undef).oneCell'=true
 | [],[],_,j,hj=>absurd hj (by simp)
 | _::_,_::_,h,0,_=>h.1
 | _::_,_::_,h,j+1,hj=>by simpa using Cs.get h.2 j (by simpa using hj)
theorem eQ:∀ (a b:List PV),yW (a++b)=yW a++yW b
 | [],_=>rfl
 | _::a,b=>by simp [yW,eQ a b]
structure ElR (w:World) (t:TypeId) (k:Nat) {α:Type} (G:α→Prop) (p:α→List PV):Prop where
 sz:Tryz.prog.cellsOf t=k
 rd:∀ {H:Type} {enc:TypeId × Value→H} {sp:Nat→Bool} {n:Nat} {cs:List Value} {x:DataW H × List MemPlace},DataW.trod enc Tryz.prog w 0 sp true n t cs=some x→∃ a,G a∧Cs w cs (yW (p a))
theorem ElR.map {w t k}{α β:Type}{G:α→Prop}{p:α→List PV}{G':β→Prop}{p':β→List PV}(h:ElR w t k G p)(f:α→β)(hp:∀ a,G a→yW (p' (f a))=yW (p a))(hG:∀ a,G a→G' (f a)):ElR w t k G' p' :=
 ⟨h.sz,fun hx=>by
  obtain⟨a,h1,h2⟩:=h.rd hx
  exact⟨f a,hG a h1,by rw[hp a h1];exact h2⟩⟩
theorem zMK {w t}{k:IntKind}(ht:Tryz.prog.underlying t=some (.int k))(hs:Tryz.prog.cellsOf t=1):ElR w t 1 (fun n=>(Lit.int k n).wf=true) (fun n=>[.int k (fun _=>n)]) :=
 ⟨hs,fun {H enc sp n cs x} hx=>by
  cases n with
  | zero=>simp [DataW.trod] at hx
  | succ n =>
   unfold DataW.trod at hx
   rw[ht] at hx
   split at hx <;> simp_all
   obtain⟨⟨rfl,h2⟩,_⟩:=hx
   exact⟨_,h2,⟨.int _ _,rfl⟩,trivial⟩⟩
theorem zRH {w t}(ht:Tryz.prog.underlying t=some .bool)(hs:Tryz.prog.cellsOf t=1):ElR w t 1 (fun _=>True) (fun b=>[.bool (fun _=>b)]) :=
 ⟨hs,fun {H enc sp n cs x} hx=>by
  cases n with
  | zero=>simp [DataW.trod] at hx
  | succ n =>
   unfold DataW.trod at hx
   rw[ht] at hx
   split at hx
   ·exact⟨_,trivial,⟨.bool _,rfl⟩,trivial⟩
   all_goals simp_all⟩
theorem zRT {b o n:Nat}:(⟨b,o,none⟩:Addr).add n=⟨b,o+n,none⟩:=by
 unfold Addr.add
 split
 ·rename_i h;rw[h];rfl
 ·rfl
theorem zHF {w t e k}{α:Type}{G:α→Prop}{p:α→List PV}(ht:Tryz.prog.underlying t=some (.slice e))(hs:Tryz.prog.cellsOf t=1)(hk:0<k)(he:ElR w e k G p) :
  ElR w t 1 (fun l:List α=>(∀ a,a∈l→G a)∧l.length≤maxLen) (fun l=>[.sl (fun _=>enc p l)]) :=
 ⟨hs,fun {H enc' sp n cs x} hx=>by
  rcases Go.Deep.open_slice ht hx with ⟨rfl,_⟩ | ⟨a,len,cap,m,n',D,Pl,rfl,hb,hl,hm,hmm,_,hi⟩
  ·exact⟨[],⟨fun _ h=>absurd h (by simp),Nat.zero_le _⟩,⟨.sl0 _ _,rfl⟩,trivial⟩
  have hlm:len≤m:=by rw[hmm];split <;> omega
  rcases Nat.eq_zero_or_pos len with h0 | h0
  ·subst h0
   exact⟨[],⟨fun _ h=>absurd h (by simp),Nat.zero_le _⟩,⟨.sl0 _ _,rfl⟩,trivial⟩
  rw[he.sz] at hi
  have key:∀ i,i<len→∃ y:List Value × α,w.cells? 0 (a.add (i * k)) k=some y.1∧G y.2∧Cs w y.1 (yW (p y.2)):=fun i hil=>by
   obtain⟨cs',h1,h2⟩:=hi i (by omega)
   obtain⟨y,g1,g2⟩:=he.rd h2
   exact⟨(cs',y),h1,g1,g2⟩
  haveI:Inhabited (List Value × α):=⟨Classical.choose (key 0 h0)⟩
  obtain⟨Y,hY⟩:=Go.Deep.choose_lt key
  have hcell:∀ i j,i<len→j<k→w.cell? (a.add (i * k+j))=some ((Y i).1.getD j undef):=fun i j hi' hj=>by
   obtain⟨h1,_,_⟩:=hY i hi'
   obtain⟨_,h2,h3⟩:=World.cells?_some h1
   have:=h3 j hj
   rw[Go.Deep.add_add] at this
   rw[this,List.getD_eq_getElem?_getD]
   have:j<(Y i).1.length:=by omega
   simp [this]
  obtain⟨b,o,sp'⟩:=a
  have hsp:sp'=none:=by
   have:=hcell 0 0 h0 hk
   unfold World.cell? at this
   split at this
   ·cases sp' with
    | none=>rfl
    | some s=>simp [Addr.add] at this
   ·cases this
  subst hsp
  have hS:b<w.heap.size:=World.cells?_block (a:=⟨b,o,none⟩) (by
   have:=(hY 0 h0).1
   rw[Nat.zero_mul] at this
   exact this) hk
  have hlen:((List.range len).map fun i=>(Y i).2).length=len:=by simp
  have hel:∀ i,i<len→(enc p ((List.range len).map fun i=>(Y i).2)).getD i []=yW (p (Y i).2):=fun i hi'=>by
   simp [Go.Proofs.YtgcpehdkdnkgeaaGreat.enc,hi']
  refine⟨(List.range len).map fun i=>(Y i).2,⟨fun z hz=>?_,by rw[hlen];omega⟩,⟨?_,rfl⟩,trivial⟩
  ·obtain⟨i,hi',rfl⟩:=List.mem_map.1 hz
   exact (hY i (List.mem_range.1 hi')).2.1
  have hel2:(enc p ((List.range len).map fun i=>(Y i).2)).length=len:=by rw[zA,hlen]
  have hk':∀ i,i<len→(yW (p (Y i).2)).length=k:=fun i hi'=>by
   obtain⟨h1,_,h3⟩:=hY i hi'
   obtain⟨_,h2,_⟩:=World.cells?_some h1
   rw[←h3.len]
   exact h2
  have:=RepD.sl (w:=w) (S:=InW w) (b:=b) (o:=o) (cap:=cap) (s:=k) (els:=enc p ((List.range len).map fun i=>(Y i).2)) (fun i j=>(Y i).1.getD j undef)
   (fun h=>by rw[h] at hel2;simp at hel2;omega) (by rw[hel2];exact hl) (fun _ _ _ _=>hS)
   (fun e' he'=>by
    obtain⟨z,hz,rfl⟩:=List.mem_map.1 he'
    obtain⟨i,hi',rfl⟩:=List.mem_map.1 hz
    exact hk' i (List.mem_range.1 hi'))
   (fun i j hi' hj=>by
    rw[hel2] at hi'
    have:=hcell i j hi' hj
    rw[zRT] at this
    rw[Nat.add_assoc]
    exact this)
   (fun i j hi' hj=>by
    rw[hel2] at hi'
    exact ((hY i hi').2.2.get j (by rw[hk' i hi'];exact hj)).2)
   (fun i j hi' hj=>by
    rw[hel2] at hi'
    rw[hel i hi']
    exact ((hY i hi').2.2.get j (by rw[hk' i hi'];exact hj)).1)
  rw[hel2] at this
  exact this⟩
theorem ElR.cut {w t k}{α:Type}{G:α→Prop}{p:α→List PV}(h:ElR w t k G p){H:Type}{enc:TypeId × Value→H}{sp:Nat→Bool}{n o:Nat}{cs:List Value}{x:DataW H × List MemPlace}
  (hx:DataW.trod enc Tryz.prog w 0 sp true n t ((cs.drop o).take (Tryz.prog.cellsOf t))=some x):∃ a,G a∧Cs w ((cs.drop o).take k) (yW (p a)):=by
 rw[h.sz] at hx
 exact h.rd hx
theorem elS3 {w t k0 k1 k2}{f0 f1 f2:Field}{α0 α1 α2:Type}{G0:α0→Prop}{p0:α0→List PV}{G1:α1→Prop}{p1:α1→List PV}{G2:α2→Prop}{p2:α2→List PV}(ht:Tryz.prog.underlying t=some (.struct #[f0,f1,f2]))(hs:Tryz.prog.cellsOf t=k0+(k1+k2))
  (o0:f0.offset=0) (o1:f1.offset=k0) (o2:f2.offset=k0+k1) (h0:ElR w f0.type k0 G0 p0) (h1:ElR w f1.type k1 G1 p1) (h2:ElR w f2.type k2 G2 p2) :
  ElR w t (k0+(k1+k2)) (fun a:α0 × α1 × α2=>G0 a.1∧G1 a.2.1∧G2 a.2.2) (fun a=>p0 a.1++(p1 a.2.1++p2 a.2.2)) :=
 ⟨hs,fun {H enc sp m cs x} hx=>by
  obtain⟨y0,y1,y2,n,_,hl,g0,g1,g2⟩:=Go.Deep.trod_struct3 ht hx
  obtain⟨a0,u0,v0⟩:=h0.cut g0
  obtain⟨a1,u1,v1⟩:=h1.cut g1
  obtain⟨a2,u2,v2⟩:=h2.cut g2
  rw[o0,List.drop_zero] at v0
  rw[o1] at v1
  rw[o2,List.take_of_length_le (by rw[List.length_drop,hl,hs];omega)] at v2
  rw[←List.drop_drop] at v2
  have e1:=v1.app v2
  rw[List.take_append_drop] at e1
  have:=v0.app e1
  rw[List.take_append_drop] at this
  exact⟨(a0,a1,a2),⟨u0,u1,u2⟩,by rw[eQ,eQ];exact this⟩⟩
theorem rInt (w:World):ElR w 3 1 (fun n=>(Lit.int .i64 n).wf=true) (fun n=>[.int .i64 (fun _=>n)]):=zMK Tryz.underlying3 (by kernel_rfl)
theorem zSO (w:World):ElR w 4 1 (fun _=>True) (fun b=>[.bool (fun _=>b)]):=zRH Tryz.underlying4 (by kernel_rfl)
theorem rU32 (w:World):ElR w 163 1 (fun _=>True) (fun x:UInt32=>[.int .u32 (fun _=>(x.toNat:Int))]) :=
 (zMK (k:=.u32) Tryz.underlying163 (by kernel_rfl)).map (fun n=>UInt32.ofNat n.toNat) (fun n h=>by
  have:0≤n∧n≤4294967295:=by simpa [Lit.wf,IntKind.min,IntKind.max,IntKind.signed,IntKind.bits] using h
  have e:((UInt32.ofNat n.toNat).toNat:Int)=n:=by
   rw[UInt32.toNat_ofNat_of_lt' (by show n.toNat<4294967296;omega)]
   omega
  show [D.int .u32 _]=[D.int .u32 _]
  rw[e]) (fun _ _=>trivial)
theorem rNat (w:World):ElR w 24 1 (fun _=>True) (fun l=>[nat l]) :=
 (zHF (k:=1) Tryz.underlying24 (by kernel_rfl) (by decide) (rU32 w)).map (fun l=>l) (fun l _=>rfl) (fun _ _=>trivial)
theorem rRat (w:World):ElR w 26 3 (fun _=>True) (fun x:R=>[.bool (fun _=>x.neg),nat x.num,nat x.den]) :=
 (elS3 (k0:=1) (k1:=1) (k2:=1) Tryz.underlying26 (by kernel_rfl) rfl rfl rfl (zSO w) (rNat w) (rNat w)).map (fun a=>⟨a.1,a.2.1,a.2.2⟩) (fun _ _=>rfl) (fun _ _=>trivial)
end Go.Proofs.YtgcpehdkdnkgeaaGreat
namespace Go.Proofs.YtgcpehdkdnkgeaaGreat
open Go Go.ChangeShapes Go.WideShapes Go.ChangeAt Go.RowKit
set_option maxRecDepth 100000
theorem own:ownKnob Tryz.prog.godebug=none:=by kernel_rfl
theorem kids:Kids Tryz.prog (·<Tryz.prog.types.size):=kids_rows (by kernel_rfl) (by kernel_rfl)
theorem full:∀ t e,t<Tryz.prog.types.size→Tryz.prog.underlying t=some (.slice e)→0<Tryz.prog.cellsOf e:=slices_full_of _ (by kernel_rfl)
theorem rO {H:Type}{enc:TypeId × Value→H}{W W':World}{sp:Nat→Bool}:∀ {ts:List TypeId} {vs:List Value} {ds:List (DataW H)} {ps:List MemPlace},(∀ t∈ts,t<Tryz.prog.types.size) →
  DataW.TrodAll enc Tryz.prog W 0 (fun _=>true) true ts vs ds ps→(∀ p∈ps,W.sameAt W' p)→(∀ p∈ps,sp p.block=true)→DataW.TrodAll enc Tryz.prog W' 0 sp true ts vs ds ps
 | [],[],[],_,_,h,_,_=>h
 | _::_,_::_,_::_,_,hT,⟨p,q,⟨n,h1⟩,h2,e⟩,hs,hb=>by
  subst e
  refine⟨p,q,⟨n,?_⟩,rO (fun t ht=>hT t (List.mem_cons_of_mem _ ht)) h2 (fun x hx=>hs x (List.mem_append_right _ hx)) (fun x hx=>hb x (List.mem_append_right _ hx)),rfl⟩
  exact DataW.trod_respare kids full n _ _ _ (hT _ List.mem_cons_self) (DataW.trod_carry n _ _ _ h1 (fun x hx=>hs x (List.mem_append_left _ hx))) (fun x hx=>hb x (List.mem_append_left _ hx))
theorem zE5 {W W':World}(hs:W.heap.size≤W'.heap.size)(ho:W'.os=W.os)(hu:W'.output=W.output)(hb:∀ b,b<W.heap.size→W'.heap[b]?=W.heap[b]?)(may:MemPlace→Prop):W.keptBut W' may:=by
 refine⟨ho,hu,fun i hi=>?_⟩
 rw[hb i hi]
 have:W.heap[i]?=some W.heap[i]:=by simp [hi]
 rw[this]
 cases W.heap[i] with
 | cells c t fr=>exact⟨rfl,rfl,rfl,fun _ _=>rfl⟩
 | map es clock=>exact .inr ⟨rfl,rfl⟩
 | _=>rfl
theorem eW {s:ChangeSpec}{fn:Func}{H:Type}{enc:TypeId × Value→H}{W:World}{args:Array Value}{ds gs:List (DataW H)}{before:List MemPlace}{fresh handsOn again:Bool}
  (hv:s.vars=[]) (hres:fn.resultTypes=#[4]) (hsp:s.fn H ds={ results:=[.lit (.bool true)],args:=ds }) (hp:∀ t∈fn.params.toList,t<Tryz.prog.types.size)
  (hW:DataW.Whole enc Tryz.prog fn.params.toList s.vars false W args.toList ds gs before)
  {f:FuncId} {pvs:List PV} (hS:zE f pvs (.bool (fun _=>true))) (hn:args.size=pvs.length) (hrep:∀ j,j<pvs.length→Rep W (InW W) (fun _=>none) (args.getD j undef) (pvs.getD j .any)) :
  Calls Tryz.prog f args W fun e W'=>∃ v,e=.returned v∧s.post enc Tryz.prog fn false fresh handsOn again W args v W':=by
 have hgo:=hS.go W (InW W) (fun _=>none) args (fun b i h=>h) zLE hn hrep
 rw[jB] at hgo
 refine hgo.mono fun e W' ⟨v,S',β',he,hl,hr,_⟩=>?_
 subst he
 have hvt:v=.bool true:=by
  cases hr with
  | c hf h=>cases h;rfl
 subst hvt
 refine⟨_,rfl,?_⟩
 have hsame:∀ b,b<W.heap.size→W'.heap[b]?=W.heap[b]?:=fun b hb=>hl.same b hb (fun ⟨n,o,h,_⟩=>by simp at h)
 have hlt:=hW.lt
 have hW0:=hW
 obtain⟨p,q,hA,hV,rfl,hfz,hnd⟩:=hW
 rw[hv] at hV
 obtain⟨rfl,rfl⟩:=trodVars_none hV
 rw[List.append_nil] at hlt hfz hW0
 have hat:∀ x∈p,W.sameAt W' x:=fun x hx=>by
  have:=hlt x hx
  cases x with
  | cell b o=>show W'.cell? _=W.cell? _;unfold World.cell?;rw[hsame b this]
  | map b=>exact hsame b this
 have hargs:∀ sp:Nat→Bool,(∀ x∈p,sp x.block=true)→DataW.TrodAll enc Tryz.prog W' 0 sp true fn.params.toList args.toList ds p:=fun sp h=>rO hp hA hat h
 have hold:∀ x∈p,(fun b=>decide (b<W.heap.size)) x.block=true:=fun x hx=>by simpa using hlt x hx
 have hrs:∀ (b:Nat) (sp:Nat→Bool) (hd:Bool),DataW.TrodAll enc Tryz.prog W' b sp hd fn.resultTypes.toList ((Value.bool true).resultList fn.resultTypes.size) [.lit (.bool true)] []:=fun b sp hd=>by
  rw[hres]
  exact⟨[],[],shut_bool Tryz.underlying4 true,rfl,rfl⟩
 have hfz':W'.noneFrozen p:=fun b o h=>by
  have g:=hfz b o h
  have hb:b<W.heap.size:=hlt _ h
  unfold World.frozen? at g ⊢
  rw[hsame b hb]
  exact g
 refine⟨ds,[],p,[],p,[],hW0,?_,?_,?_,?_,fun _=>⟨?_,ds.cons (.lit (.bool true)),[],p,⟨p,[],?_,?_,by simp,hfz',fun h=>by cases h⟩,fun x hx _=>hx⟩⟩
 ·rw[List.append_nil,hsp];exact hrs _ _ _
 ·rw[List.append_nil,hsp];exact hargs _ hold
 ·rw[List.append_nil,hsp,hv];rfl
 ·exact zE5 hl.size hl.os hl.output hsame _
 ·exact ok_one hres rfl (okWide_bool_mk Tryz.underlying4 _)
 ·exact trodAll_append (hargs _ (fun _ _=>rfl)) (hrs _ _ _)
 ·rw[hv];rfl
end Go.Proofs.YtgcpehdkdnkgeaaGreat
namespace Go.Proofs.YtgcpehdkdnkgeaaGreat
open Go
def fdN (raw:List UInt8) (n a:Nat):Nat:=match raw[a]? with
 | some b=>b.toNat % n
 | none=>0
def na (raw:List UInt8) (a:Nat):Nat:=if a<raw.length then a+1 else a
theorem uR {raw:List UInt8}{n a:Nat}(h:0<n):fdN raw n a<n:=by
 unfold fdN
 split
 ·exact Nat.mod_lt _ h
 ·exact h
theorem jE {raw:List UInt8}{a:Nat}(h:a≤raw.length):na raw a≤raw.length:=by unfold na;split <;> omega
def dnm:Nat→Int
 | 0=>1
 | 1=>1
 | 2=>2
 | _=>4
theorem zHH (k:Nat):1≤dnm k∧dnm k≤4:=by unfold dnm;split <;> decide
def fdQ (raw:List UInt8) (a:Nat):Rat × Nat:=(jD ((fdN raw 9 a:Int) - 4) (dnm (fdN raw 4 (na raw a))),na raw (na raw a))
theorem zJ7 {a b:Int}(h1:a.natAbs<B)(h2:0<b)(h3:b.natAbs<B):Fits 1 (jD a b):=by
 obtain⟨d,hd⟩:∃ d:Nat,b=(d:Int):=⟨b.toNat,by omega⟩
 subst hd
 unfold jD
 rw[Rat.divInt_ofNat]
 exact bV (by rw[Nat.pow_one];exact h1) (by rw[Nat.pow_one];simpa using h3) (by omega)
theorem uQ (raw:List UInt8)(a:Nat):Fits 1 (fdQ raw a).1:=by
 have h1:=uR (raw:=raw) (n:=9) (a:=a) (by decide)
 obtain⟨h2,h3⟩:=zHH (fdN raw 4 (na raw a))
 have hB:B=4294967296:=rfl
 exact zJ7 (by omega) (by omega) (by omega)
def pF (raw:List UInt8):Nat→Nat→F→Nat→F × Nat
 | 0,_,f,a=>(f,a)
 | n+1,v,f,a=>if 0<fdN raw 3 a then pF raw n (v+1) (f.add ((F.var v).scale (fdQ raw (na raw a)).1)) (fdQ raw (na raw a)).2 else pF raw n (v+1) f (na raw a)
def fdF (raw:List UInt8) (n a:Nat):F × Nat:=pF raw n 0 (F.num (fdQ raw a).1) (fdQ raw a).2
theorem zB2 (raw:List UInt8):∀ (n v:Nat) (f:F) (a k m:Nat),f.fl k m→(pF raw n v f a).1.fl (k+6 * n) (m+n)
 | 0,_,_,_,_,_,h=>h
 | n+1,v,f,a,k,m,h=>by
  unfold pF
  split
  ·exact (zB2 raw n _ _ _ (k+6) (m+1) ((h.add ((w7 _).scale (uQ raw _))).mono (by omega) (by omega))).mono (by omega) (by omega)
  ·exact (zB2 raw n _ _ _ k m h).mono (by omega) (by omega)
theorem zLR (raw:List UInt8)(n a:Nat):(fdF raw n a).1.fl (1+6 * n) n:=(zB2 raw n 0 _ _ 1 0 (wH (uQ raw a))).mono (by omega) (by omega)
theorem pE {raw:List UInt8}{a:Nat}(h:a≤raw.length):(fdQ raw a).2≤raw.length:=jE (jE h)
theorem zB1 {raw:List UInt8}:∀ {n v:Nat} {f:F} {a:Nat},a≤raw.length→(pF raw n v f a).2≤raw.length
 | 0,_,_,_,h=>h
 | n+1,v,f,a,h=>by
  unfold pF
  split
  ·exact zB1 (pE (jE h))
  ·exact zB1 (jE h)
theorem zC3 {raw:List UInt8}{n a:Nat}(h:a≤raw.length):(fdF raw n a).2≤raw.length:=zB1 (pE h)
def fdL (raw:List UInt8) (d:Nat):Nat→Nat→Nat→List F × Nat
 | 0,_,a=>([],a)
 | n+1,v,a=>((fdF raw v a).1::(fdL raw d n (v+d) (fdF raw v a).2).1,(fdL raw d n (v+d) (fdF raw v a).2).2)
theorem jX (raw:List UInt8)(d:Nat):∀ n v a,(fdL raw d n v a).1.length=n
 | 0,_,_=>rfl
 | n+1,v,a=>by simp only[fdL,List.length_cons,jX raw d n]
theorem zC1 {raw:List UInt8}{d:Nat}:∀ {n v a},a≤raw.length→(fdL raw d n v a).2≤raw.length
 | 0,_,_,h=>h
 | n+1,v,a,h=>zC1 (n:=n) (zC3 h)
theorem zC2 {raw:List UInt8}{d:Nat}:∀ {n v a:Nat} {f:F},f∈(fdL raw d n v a).1→f.fl (1+6 * (v+d * n)) (v+d * n)
 | 0,_,_,f,h=>absurd h (by simp [fdL])
 | n+1,v,a,f,h=>by
  simp only[fdL,List.mem_cons] at h
  have e:d * (n+1)=d * n+d:=Nat.mul_succ d n
  rcases h with rfl | h
  ·exact (zLR raw v a).mono (by omega) (by omega)
  ·exact (zC2 h).mono (by omega) (by omega)
structure FGrp where
 n:Nat
 us:List F
 os:List F
def FGrp.g (x:FGrp):Grp:=⟨x.n,x.us.map fA,x.os.map fA⟩
def fdG (raw:List UInt8) (a:Nat):FGrp × Nat :=
 let n:=1+fdN raw 3 a
 let a1:=na raw a
 let u:=fdN raw 5 a1
 let a2:=na raw a1
 let o:=1+fdN raw 3 a2
 let a3:=na raw a2
 let U:=fdL raw 1 u n a3
 let O:=fdL raw 0 o (n+u) U.2
 (⟨n,U.1,O.1⟩,O.2)
structure FGrp.small (x:FGrp):Prop where
 n1:1≤x.n
 n2:x.n≤3
 us:x.us.length≤4
 o1:1≤x.os.length
 o2:x.os.length≤3
 uf:∀ f,f∈x.us→f.fl 43 7
 of:∀ f,f∈x.os→f.fl 43 7
theorem zA1 (raw:List UInt8)(a:Nat):(fdG raw a).1.small:=by
 have h1:=uR (raw:=raw) (n:=3) (a:=a) (by decide)
 have h2:=uR (raw:=raw) (n:=5) (a:=na raw a) (by decide)
 have h3:=uR (raw:=raw) (n:=3) (a:=na raw (na raw a)) (by decide)
 refine⟨?_,?_,?_,?_,?_,fun f hf=>?_,fun f hf=>?_⟩
 ·show 1≤1+fdN raw 3 a;omega
 ·show 1+fdN raw 3 a≤3;omega
 ·show (fdL raw 1 _ _ _).1.length≤4;rw[jX];omega
 ·show 1≤(fdL raw 0 _ _ _).1.length;rw[jX];omega
 ·show (fdL raw 0 _ _ _).1.length≤3;rw[jX];omega
 ·have:=zC2 (f:=f) (raw:=raw) (d:=1) hf
  exact this.mono (by omega) (by omega)
 ·have:=zC2 (f:=f) (raw:=raw) (d:=0) hf
  exact this.mono (by omega) (by omega)
theorem zLP {raw:List UInt8}{a:Nat}(h:a≤raw.length):(fdG raw a).2≤raw.length:=zC1 (zC1 (jE (jE (jE h))))
def gE (q:Rat):Rat:=if q<0 then -q else q
theorem rF {k:Nat}{q:Rat}(h:Fits k q):Fits k (gE q):=by
 unfold gE
 split
 ·exact aY h
 ·exact h
def fdB (raw:List UInt8):Nat→Nat→List (Rat × Rat) × Nat
 | 0,a=>([],a)
 | n+1,a=>(((fdQ raw a).1,(fdQ raw a).1+gE (fdQ raw (fdQ raw a).2).1)::(fdB raw n (fdQ raw (fdQ raw a).2).2).1,(fdB raw n (fdQ raw (fdQ raw a).2).2).2)
theorem zB3 (raw:List UInt8):∀ n a,(fdB raw n a).1.length=n
 | 0,_=>rfl
 | n+1,a=>by simp only[fdB,List.length_cons,zB3 raw n]
theorem zLS {raw:List UInt8}:∀ {n a},a≤raw.length→(fdB raw n a).2≤raw.length
 | 0,_,h=>h
 | n+1,a,h=>zLS (n:=n) (pE (pE h))
theorem zEB {raw:List UInt8}:∀ {n a:Nat} {x:Rat × Rat},x∈(fdB raw n a).1→Fits 3 x.1∧Fits 3 x.2
 | 0,_,x,h=>absurd h (by simp [fdB])
 | n+1,a,x,h=>by
  simp only[fdB,List.mem_cons] at h
  rcases h with rfl | h
  ·exact⟨(uQ raw a).mono (by decide),(vI (uQ raw a) (rF (uQ raw _))).mono (by decide)⟩
  ·exact zEB h
theorem zHB {raw:List UInt8}:∀ {n a:Nat} {x:Rat × Rat},x∈(fdB raw n a).1→x.1≤x.2
 | 0,_,x,h=>absurd h (by simp [fdB])
 | n+1,a,x,h=>by
  simp only[fdB,List.mem_cons] at h
  rcases h with rfl | h
  ·show (fdQ raw a).1≤(fdQ raw a).1+gE _
   have:0≤gE (fdQ raw (fdQ raw a).2).1:=by unfold gE;split <;> grind
   grind
  ·exact zHB h
structure FReg where
 bs:List (Rat × Rat)
 rows:List F
def FReg.g (x:FReg):Reg:=⟨x.bs.map fun b=>zJ b.1,x.bs.map fun b=>zJ b.2,x.rows.map fA⟩
def fdR (raw:List UInt8) (n a:Nat):FReg × Nat :=
 let b:=fdB raw n a
 let k:=fdN raw 3 b.2
 let l:=fdL raw 0 k n (na raw b.2)
 (⟨b.1,l.1⟩,l.2)
structure FReg.small (x:FReg) (n:Nat):Prop where
 bs:x.bs.length=n
 bf:∀ b,b∈x.bs→Fits 3 b.1∧Fits 3 b.2
 ord:∀ b,b∈x.bs→b.1≤b.2
 rows:x.rows.length≤2
 rf:∀ f,f∈x.rows→f.fl (1+6 * n) n
theorem zIH (raw:List UInt8)(n a:Nat):(fdR raw n a).1.small n:=by
 have h1:=uR (raw:=raw) (n:=3) (a:=(fdB raw n a).2) (by decide)
 refine⟨zB3 raw n a,fun b hb=>zEB hb,fun b hb=>zHB hb,?_,fun f hf=>?_⟩
 ·show (fdL raw 0 _ _ _).1.length≤2;rw[jX];omega
 ·have:=zC2 (f:=f) (raw:=raw) (d:=0) hf
  exact this.mono (by omega) (by omega)
theorem zLO {raw:List UInt8}{n a:Nat}(h:a≤raw.length):(fdR raw n a).2≤raw.length:=zC1 (jE (zLS h))
structure FQry where
 g:FGrp
 r:FReg
 goal:F
def FQry.q (x:FQry):Qry:=⟨x.g.g,x.r.g,fA x.goal⟩
def fdY (raw:List UInt8) (a:Nat):FQry × Nat :=
 let g:=fdG raw a
 let r:=fdR raw g.1.n g.2
 let f:=fdF raw (g.1.n+g.1.us.length) r.2
 (⟨g.1,r.1,f.1⟩,f.2)
structure FQry.small (x:FQry):Prop where
 g:x.g.small
 r:x.r.small x.g.n
 goal:x.goal.fl 43 7
theorem v5 (raw:List UInt8)(a:Nat):(fdY raw a).1.small:=by
 have hg:=zA1 raw a
 refine⟨hg,zIH raw _ _,?_⟩
 have h1:=hg.n2
 have h2:=hg.us
 show (fdF raw ((fdG raw a).1.n+(fdG raw a).1.us.length) (fdR raw (fdG raw a).1.n (fdG raw a).2).2).1.fl 43 7
 exact (zLR raw _ _).mono (by omega) (by omega)
theorem zQ9 {raw:List UInt8}{a:Nat}(h:a≤raw.length):(fdY raw a).2≤raw.length:=zC3 (zLO (zLP h))
theorem zF9 {l:List F}{k n:Nat}(hl:l.length<2^38)(h:∀ f,f∈l→f.fl k n)(hn:n<2^38):Asz k (l.map fA):=⟨by simpa using hl,fun a ha=>by
 obtain⟨f,hf,rfl⟩:=List.mem_map.1 ha
 exact ((h f hf).fit hn).fA⟩
theorem FQry.small.sz {x:FQry}(h:x.small):x.q.sz 43 where
 g:=⟨zF9 (by have:=h.g.us;omega) h.g.uf (by decide),zF9 (by have:=h.g.o2;omega) h.g.of (by decide)⟩
 r:=⟨⟨by show (x.r.bs.map _).length<_;rw[List.length_map,h.r.bs];have:=h.g.n2;omega,fun a ha=>by
   obtain⟨b,hb,rfl⟩:=List.mem_map.1 ha
   exact z8 ((h.r.bf b hb).1.mono (by decide))⟩,⟨by show (x.r.bs.map _).length<_;rw[List.length_map,h.r.bs];have:=h.g.n2;omega,fun a ha=>by
   obtain⟨b,hb,rfl⟩:=List.mem_map.1 ha
   exact z8 ((h.r.bf b hb).2.mono (by decide))⟩,
  zF9 (by have:=h.r.rows;omega) (fun f hf=>(h.r.rf f hf).mono (by have:=h.g.n2;omega) (by have:=h.g.n2;show _≤7;omega)) (by decide)⟩
 goal:=(h.goal.fit (by decide)).fA
def rI (raw:List UInt8) (q:Qry) (n m:Nat):Nat→List Dec→Nat→List Dec
 | 0,p,_=>p
 | k+1,p,a =>
  let kd:=1+fdN raw 4 a
  let a1:=na raw a
  if kd=3∨kd=4 then rI raw q n m k (p++[⟨kd,fdN raw n a1,zJ (fdQ raw (na raw a1)).1⟩]) (fdQ raw (na raw a1)).2
  else if m=0 then rI raw q n m k p a1
  else if (⟨q,p,[]⟩:Scp).dcd 1 (fdN raw m a1)=true∨(⟨q,p,[]⟩:Scp).dcd 2 (fdN raw m a1)=true then rI raw q n m k p (na raw a1)
  else rI raw q n m k (p++[⟨kd,fdN raw m a1,R0⟩]) (na raw a1)
def fdS (raw:List UInt8):Scp :=
 let y:=fdY raw 0
 ⟨y.1.q,rI raw y.1.q y.1.g.n y.1.g.us.length (fdN raw 4 y.2) [] (na raw y.2),[]⟩
structure PathOk (n m:Nat) (p:List Dec):Prop where
 d:∀ d,d∈p→(d.k=1∨d.k=2)∧0≤d.i∧d.i<m∧d.x=R0∨(d.k=3∨d.k=4)∧0≤d.i∧d.i<n∧∃ q,Fits 1 q∧d.x=zJ q
theorem t6 {raw:List UInt8}{q:Qry}{n m:Nat}(hn:0<n):∀ {k a:Nat} {p:List Dec},PathOk n m p→PathOk n m (rI raw q n m k p a)∧(rI raw q n m k p a).length≤p.length+k
 | 0,a,p,h=>⟨h,Nat.le_refl _⟩
 | k+1,a,p,h=>by
  have h4:=uR (raw:=raw) (n:=4) (a:=a) (by decide)
  unfold rI
  dsimp only
  split
  ·rename_i hk
   have hi:=uR (raw:=raw) (n:=n) (a:=na raw a) hn
   obtain⟨g1,g2⟩:=t6 (raw:=raw) (q:=q) (m:=m) hn (k:=k) (a:=(fdQ raw (na raw (na raw a))).2) (p:=p++[⟨((1+fdN raw 4 a:Nat):Int),fdN raw n (na raw a),zJ (fdQ raw (na raw (na raw a))).1⟩]) ⟨fun d hd=>by
    rcases List.mem_append.1 hd with hd | hd
    ·exact h.d d hd
    ·obtain rfl:=List.mem_singleton.1 hd
     exact .inr ⟨by show ((1+fdN raw 4 a:Nat):Int)=3∨((1+fdN raw 4 a:Nat):Int)=4;omega,by show (0:Int)≤(fdN raw n (na raw a):Int);omega,by show (fdN raw n (na raw a):Int)<_;omega,_,uQ raw _,rfl⟩⟩
   refine⟨g1,?_⟩
   rw[List.length_append,List.length_singleton] at g2
   omega
  ·rename_i hk
   split
   ·obtain⟨g1,g2⟩:=t6 (raw:=raw) (q:=q) (m:=m) hn (k:=k) (a:=na raw a) h
    exact⟨g1,by omega⟩
   ·rename_i hm
    have hi:=uR (raw:=raw) (n:=m) (a:=na raw a) (by omega)
    split
    ·obtain⟨g1,g2⟩:=t6 (raw:=raw) (q:=q) (m:=m) hn (k:=k) (a:=na raw (na raw a)) h
     exact⟨g1,by omega⟩
    ·obtain⟨g1,g2⟩:=t6 (raw:=raw) (q:=q) (m:=m) hn (k:=k) (a:=na raw (na raw a)) (p:=p++[⟨((1+fdN raw 4 a:Nat):Int),fdN raw m (na raw a),R0⟩]) ⟨fun d hd=>by
      rcases List.mem_append.1 hd with hd | hd
      ·exact h.d d hd
      ·obtain rfl:=List.mem_singleton.1 hd
       exact .inl ⟨by show ((1+fdN raw 4 a:Nat):Int)=1∨((1+fdN raw 4 a:Nat):Int)=2;omega,by show (0:Int)≤(fdN raw m (na raw a):Int);omega,by show (fdN raw m (na raw a):Int)<_;omega,rfl⟩⟩
     refine⟨g1,?_⟩
     rw[List.length_append,List.length_singleton] at g2
     omega
theorem fT (raw:List UInt8):PathOk (fdY raw 0).1.g.n (fdY raw 0).1.g.us.length (fdS raw).path∧(fdS raw).path.length≤3:=by
 have h:=(v5 raw 0).g.n1
 obtain⟨g1,g2⟩:=t6 (raw:=raw) (q:=(fdY raw 0).1.q) (m:=(fdY raw 0).1.g.us.length) (n:=(fdY raw 0).1.g.n) (by omega) (k:=fdN raw 4 (fdY raw 0).2) (a:=na raw (fdY raw 0).2) (p:=[]) ⟨fun d hd=>absurd hd (by simp)⟩
 have:=uR (raw:=raw) (n:=4) (a:=(fdY raw 0).2) (by decide)
 exact⟨g1,by
  have:(fdS raw).path.length≤0+fdN raw 4 (fdY raw 0).2:=g2
  omega⟩
theorem zGB (raw:List UInt8):(fdS raw).sz 43:=by
 obtain⟨h1,h2⟩:=fT raw
 refine⟨(v5 raw 0).sz,⟨by omega,fun d hd=>?_⟩,⟨by show 0<2^38;decide,fun a ha=>absurd ha (by simp [fdS]),fun a ha=>absurd ha (by simp [fdS])⟩⟩
 rcases h1.d d hd with ⟨_,_,_,h⟩ | ⟨_,_,_,q,hq,h⟩
 ·rw[h];exact⟨Nat.zero_le _,Nat.zero_le _⟩
 ·rw[h];exact z8 (hq.mono (by decide))
end Go.Proofs.YtgcpehdkdnkgeaaGreat
