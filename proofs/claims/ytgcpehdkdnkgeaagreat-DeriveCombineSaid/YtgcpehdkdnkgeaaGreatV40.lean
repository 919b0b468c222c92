/- A part of the proof: SqC, SqD, SoB. -/
import Derived.Test.YtgcpehdkdnkgeaaGreatV39
set_option linter.all false
namespace Go.Proofs.YtgcpehdkdnkgeaaGreat
open Go
set_option maxRecDepth 100000
set_option maxHeartbeats 2000000
def stS (l:List Mult):List Mult:=(isr l).reverse
theorem lP (l:List Mult):(stS l).length=l.length:=by unfold stS;rw[List.length_reverse,lZ]
theorem lO:stS []=[]:=rfl
theorem zBM (l:List Mult):Srt (stS l):=eX l
def insF (x:Mult) (l:List Mult):List Mult:=(j5 x l.reverse).reverse
theorem zDG (l:List Mult)(x:Mult):stS (l++[x])=insF x (stS l):=by
 unfold stS insF
 rw[zD0,List.reverse_reverse]
theorem zAY {x:Mult}:∀ (m n:List Mult),(∀ y,y∈m→yF x.row y.row=true)→j5 x (m++n)=m++j5 x n
 | [],n,_=>rfl
 | y::m,n,h=>by
  rw[List.cons_append]
  unfold j5
  rw[if_pos ((f9 _ _).2 (h y List.mem_cons_self)),zAY m n (fun z hz=>h z (List.mem_cons_of_mem _ hz))]
  cases n <;> rfl
theorem zIE {x:Mult}{n:List Mult}(h:∀ y,y∈n→¬ yF x.row y.row=true):j5 x n=x::n:=by
 cases n with
 | nil=>rfl
 | cons y n =>
  unfold j5
  rw[if_neg (fun g=>h y List.mem_cons_self ((f9 _ _).1 g))]
theorem zG9 {x:Mult}{a b:List Mult}(ha:∀ y,y∈a→¬ yF x.row y.row=true)(hb:∀ y,y∈b→yF x.row y.row=true):insF x (a++b)=a++x::b:=by
 unfold insF
 rw[List.reverse_append,zAY _ _ (fun y hy=>hb y (List.mem_reverse.1 hy)),zIE (fun y hy=>ha y (List.mem_reverse.1 hy))]
 simp
theorem iN (x:Mult):∀ {l:List Mult},Srt l→∃ a b,l=a++b∧(∀ y,y∈a→¬ yF x.row y.row=true)∧∀ y,y∈b→yF x.row y.row=true
 | [],_=>⟨[],[],rfl,fun y hy=>absurd hy (by simp),fun y hy=>absurd hy (by simp)⟩
 | z::l,h=>by
  have h1:=List.pairwise_cons.1 h
  by_cases g:yF x.row z.row=true
  ·refine⟨[],z::l,rfl,fun y hy=>absurd hy (by simp),fun y hy=>?_⟩
   rcases List.mem_cons.1 hy with rfl | hy
   ·exact g
   ·exact fH g (h1.1 y hy)
  ·obtain⟨a,b,e,ha,hb⟩:=iN x h1.2
   refine⟨z::a,b,by rw[e];rfl,fun y hy=>?_,hb⟩
   rcases List.mem_cons.1 hy with rfl | hy
   ·exact g
   ·exact ha y hy
theorem eM {x:Mult}{a b:List Mult}(h:∀ y,y∈a→yF x.row y.row=true):mrgM a (x::b)=x::mrgM a b:=by
 cases a with
 | nil=>rw[wX,wX]
 | cons y a=>rw[uZ,if_pos (h y List.mem_cons_self)]
theorem zH7 {a b:List Mult}(x:Mult)(ha:Srt a)(hb:Srt b):mrgM a (insF x b)=insF x (mrgM a b):=by
 obtain⟨a1,a2,ea,h1,h2⟩:=iN x ha
 obtain⟨b1,b2,eb,g1,g2⟩:=iN x hb
 subst ea eb
 have s1:∀ z,z∈a1→∀ y,y∈b2→¬ yF y.row z.row=true:=fun z hz y hy g=>h1 z hz (kM (g2 y hy) g)
 have s2:∀ y,y∈b1→∀ z,z∈a2→yF y.row z.row=true:=fun y hy z hz=>aN (g1 y hy) (h2 z hz)
 rw[vN (Nat.le_refl _) s1 s2,zG9 g1 g2,zG9 (fun y hy=>?_) (fun y hy=>?_),vN (Nat.le_refl _) (fun z hz y hy=>?_) s2,eM h2]
 ·rcases List.mem_cons.1 hy with rfl | hy
  ·exact h1 z hz
  ·exact s1 z hz y hy
 ·rcases tI hy with hy | hy
  ·exact h1 y hy
  ·exact g1 y hy
 ·rcases tI hy with hy | hy
  ·exact h2 y hy
  ·exact g2 y hy
theorem zIA {α:Type}(l:List α):l=[]∨∃ i x,l=i++[x]:=by
 cases h:l.reverse with
 | nil=>exact .inl (List.reverse_eq_nil_iff.1 h)
 | cons x r=>exact .inr ⟨r.reverse,x,by rw[←List.reverse_reverse l,h];simp⟩
theorem zGL (a:List Mult):∀ (n:Nat) (b:List Mult),b.length≤n→mrgM (stS a) (stS b)=stS (a++b):=by
 intro n
 induction n with
 | zero =>
  intro b hb
  obtain rfl:b=[]:=List.eq_nil_of_length_eq_zero (Nat.le_zero.1 hb)
  rw[lO,xU,List.append_nil]
 | succ n ih =>
  intro b hb
  rcases zIA b with rfl | ⟨i,x,rfl⟩
  ·rw[lO,xU,List.append_nil]
  ·rw[List.length_append] at hb
   rw[zDG,zH7 x (zBM a) (zBM i),ih i (by simp at hb;omega),←zDG,List.append_assoc]
def chF (w:Nat):Nat→List Mult→List Mult
 | 0,l=>stS l
 | n+1,l=>if l.length≤w then stS l else stS (l.take w)++chF w n (l.drop w)
def chW (w:Nat) (l:List Mult):List Mult:=chF w l.length l
theorem zEI (w:Nat)(hw:0<w):∀ (n m:Nat) (l:List Mult),l.length≤n→l.length≤m→chF w n l=chF w m l
 | 0,0,l,_,_=>rfl
 | 0,m+1,l,h,_=>by
  unfold chF
  rw[if_pos (by omega)]
 | n+1,0,l,_,h=>by
  unfold chF
  rw[if_pos (by omega)]
 | n+1,m+1,l,h,g=>by
  unfold chF
  by_cases e:l.length≤w
  ·rw[if_pos e,if_pos e]
  ·rw[if_neg e,if_neg e,zEI w hw n m (l.drop w) (by rw[List.length_drop];omega) (by rw[List.length_drop];omega)]
theorem pJ {w:Nat}{l:List Mult}(h:l.length≤w):chW w l=stS l:=by
 unfold chW
 cases hn:l.length with
 | zero=>rfl
 | succ n =>
  unfold chF
  exact if_pos h
theorem rA {w:Nat}(hw:0<w){r:List Mult}(hr:r.length=w)(s:List Mult):chW w (r++s)=stS r++chW w s:=by
 cases s with
 | nil=>rw[List.append_nil,pJ (by omega),pJ (Nat.zero_le w),lO,List.append_nil]
 | cons x s =>
  unfold chW
  have hl:(r++x::s).length=(w+s.length)+1:=by simp;omega
  rw[hl,show chF w (w+s.length+1) (r++x::s)=if (r++x::s).length≤w then stS (r++x::s) else stS ((r++x::s).take w)++chF w (w+s.length) ((r++x::s).drop w) from rfl]
  rw[if_neg (by rw[hl];omega),List.take_left' hr,List.drop_left' hr]
  rw[zEI w hw (w+s.length) (x::s).length (x::s) (by simp;omega) (Nat.le_refl _)]
theorem zOO {w:Nat}(hw:0<w):∀ (n:Nat) (l:List Mult),l.length≤n→(chW w l).length=l.length:=by
 intro n
 induction n with
 | zero=>intro l h;rw[pJ (by omega),lP]
 | succ n ih =>
  intro l h
  by_cases e:l.length≤w
  ·rw[pJ e,lP]
  ·have hd:l=l.take w++l.drop w:=(List.take_append_drop w l).symm
   have ht:(l.take w).length=w:=by rw[List.length_take];omega
   have hdl:(l.drop w).length=l.length - w:=List.length_drop
   conv=>lhs;rw[hd]
   rw[rA hw ht,List.length_append,lP,ih _ (by omega),ht,hdl]
   omega
theorem zON {w:Nat}(hw:0<w){r s:List Mult}(hr:r.length=w)(hs:s.length=w)(t:List Mult):chW w (r++(s++t))=stS r++(stS s++chW w t)∧chW (2 * w) (r++(s++t))=mrgM (stS r) (stS s)++chW (2 * w) t:=by
 refine⟨by rw[rA hw hr,rA hw hs],?_⟩
 rw[←List.append_assoc,rA (by omega) (by rw[List.length_append];omega),zGL r _ s (Nat.le_refl _)]
theorem zKL {w:Nat}(hw:0<w){r s:List Mult}(hr:r.length=w)(hs:s.length≤w):chW w (r++s)=stS r++stS s∧chW (2 * w) (r++s)=mrgM (stS r) (stS s):=by
 refine⟨by rw[rA hw hr,pJ hs],?_⟩
 rw[pJ (by rw[List.length_append];omega),zGL r _ s (Nat.le_refl _)]
theorem cK {α:Type}{p r:List α}{x:α}{n:Nat}(h:n=p.length):(p++x::r)[n]?=some x:=by
 subst h
 rw[List.getElem?_append_right (by omega)]
 simp
theorem dJ {α:Type}{p r:List α}{x:α}{n:Nat}(h:n=p.length)(y:α):(p++x::r).set n y=p++y::r:=by
 subst h
 rw[List.set_append_right _ _ (by omega)]
 simp
def swA (P X Q Y S:List Mult) (i:Nat):List Mult:=P++(Y.take i++(X.drop i++(Q++(X.take i++(Y.drop i++S)))))
theorem zM4 (P X Q Y S:List Mult)(h:X.length=Y.length)(i:Nat):(swA P X Q Y S i).length=P.length+X.length+Q.length+Y.length+S.length:=by
 unfold swA
 simp only[List.length_append,List.length_take,List.length_drop]
 omega
theorem zI7 (P X Q Y S:List Mult):swA P X Q Y S 0=P++(X++(Q++(Y++S))):=by unfold swA;simp
theorem zM5 (P X Q Y S:List Mult)(h:X.length=Y.length):swA P X Q Y S X.length=P++(Y++(Q++(X++S))):=by
 unfold swA
 rw[List.take_of_length_le (by omega),List.drop_length,List.take_length,List.drop_of_length_le (by omega)]
 rfl
theorem zI8 (P X Q Y S:List Mult)(h:X.length=Y.length){i:Nat}(hi:i<X.length):∃ x y,(swA P X Q Y S i)[P.length+i]?=some x∧(swA P X Q Y S i)[P.length+X.length+Q.length+i]?=some y ∧
  swA P X Q Y S (i+1)=((swA P X Q Y S i).set (P.length+i) y).set (P.length+X.length+Q.length+i) x:=by
 obtain⟨x,hx⟩:∃ x,X[i]?=some x:=⟨_,List.getElem?_eq_getElem hi⟩
 obtain⟨y,hy⟩:∃ y,Y[i]?=some y:=⟨_,List.getElem?_eq_getElem (by omega)⟩
 have dX:X.drop i=x::X.drop (i+1):=by
  obtain⟨h1,h2⟩:=List.getElem?_eq_some_iff.1 hx
  rw[List.drop_eq_getElem_cons h1,h2]
 have dY:Y.drop i=y::Y.drop (i+1):=by
  obtain⟨h1,h2⟩:=List.getElem?_eq_some_iff.1 hy
  rw[List.drop_eq_getElem_cons h1,h2]
 have tX:X.take (i+1)=X.take i++[x]:=by rw[List.take_add_one,hx];rfl
 have tY:Y.take (i+1)=Y.take i++[y]:=by rw[List.take_add_one,hy];rfl
 have lX:(X.take i).length=i:=by rw[List.length_take];omega
 have lY:(Y.take i).length=i:=by rw[List.length_take];omega
 have lX2:(X.drop (i+1)).length=X.length - (i+1):=List.length_drop
 unfold swA
 rw[dX,dY,tX,tY]
 generalize X.take i=X1 at *
 generalize Y.take i=Y1 at *
 generalize X.drop (i+1)=X2 at *
 generalize Y.drop (i+1)=Y2 at *
 have e1:∀ z,P++(Y1++(z::X2++(Q++(X1++(y::Y2++S)))))=(P++Y1)++z::(X2++(Q++(X1++(y::Y2++S)))):=fun z=>by simp
 have e2:∀ z,(P++Y1)++z::(X2++(Q++(X1++(y::Y2++S))))=(P++Y1++z::(X2++Q++X1))++y::(Y2++S):=fun z=>by simp
 refine⟨x,y,?_,?_,?_⟩
 ·rw[e1];exact cK (by rw[List.length_append];omega)
 ·rw[e1,e2];exact cK (by simp only[List.length_append,List.length_cons];omega)
 ·rw[e1,dJ (by rw[List.length_append];omega) y,e2,dJ (by simp only[List.length_append,List.length_cons];omega) x]
  simp
theorem pU {B:List Mult}(h:Srt B){r:Nat}{y:Mult}(hy:B[r]?=some y):∀ z,z∈B.take (r+1)→¬ yF y.row z.row=true:=by
 intro z hz
 obtain⟨i,hi,rfl⟩:=List.mem_iff_getElem.1 hz
 rw[List.length_take] at hi
 rw[List.getElem_take]
 obtain⟨h1,rfl⟩:=List.getElem?_eq_some_iff.1 hy
 by_cases e:i=r
 ·subst e;exact fun g=>kN g
 ·exact List.pairwise_iff_getElem.1 h i r (by omega) h1 (by omega)
theorem pV {B:List Mult}(h:Srt B){r:Nat}{y:Mult}(hy:B[r]?=some y):∀ z,z∈B.drop r→¬ yF z.row y.row=true:=by
 intro z hz
 obtain⟨i,hi,rfl⟩:=List.mem_iff_getElem.1 hz
 rw[List.length_drop] at hi
 rw[List.getElem_drop]
 obtain⟨h1,rfl⟩:=List.getElem?_eq_some_iff.1 hy
 by_cases e:i=0
 ·subst e;exact fun g=>kN g
 ·exact List.pairwise_iff_getElem.1 h r (r+i) h1 (by omega) (by omega)
theorem Srt.left {a b:List Mult}(h:Srt (a++b)):Srt a:=(List.pairwise_append.1 h).1
theorem Srt.right {a b:List Mult}(h:Srt (a++b)):Srt b:=(List.pairwise_append.1 h).2.1
theorem zCY {α:Type}{P A S:List α}{i k:Nat}{x:α}(h:A[i]?=some x)(hk:k=P.length+i):(P++(A++S))[k]?=some x:=by
 subst hk
 obtain⟨h1,_⟩:=List.getElem?_eq_some_iff.1 h
 rw[List.getElem?_append_right (by omega),show P.length+i - P.length=i by omega,List.getElem?_append_left h1]
 exact h
theorem sX {α:Type}{A:List α}{i:Nat}(h:i<A.length):∃ x,A[i]?=some x:=⟨_,List.getElem?_eq_getElem h⟩
def loU (x:Mult) (B:List Mult) (p:Nat):Prop:=∀ y,y∈B.take p→yF y.row x.row=true
def loV (x:Mult) (B:List Mult) (p:Nat):Prop:=∀ y,y∈B.drop p→¬ yF y.row x.row=true
theorem zNY {x:Mult}{B:List Mult}(h:Srt B){r:Nat}(hr:r<B.length):∃ y,B[r]?=some y∧(yF y.row x.row=true→loU x B (r+1))∧(¬ yF y.row x.row=true→loV x B r):=by
 obtain⟨y,hy⟩:=sX hr
 exact⟨y,hy,fun g z hz=>aN (pU h hy z hz) g,fun g z hz k=>g (aN (pV h hy z hz) k)⟩
theorem zQ0 {x:Mult}{B:List Mult}{p:Nat}(h1:loU x B p)(h2:loV x B p):mrgM [x] B=B.take p++x::B.drop p:=by
 have e:mrgM ([]++[x]) (B.take p++B.drop p)=mrgM [] (B.take p)++mrgM [x] (B.drop p):=vN (Nat.le_refl _) (fun z hz=>absurd hz (by simp)) (fun y hy z hz=>by rw[List.mem_singleton.1 hz];exact h1 y hy)
 rw[List.take_append_drop] at e
 rw[show mrgM [x] B=mrgM ([]++[x]) B from rfl,e,wX]
 congr 1
 have e2:mrgM ([x]++[]) ([]++B.drop p)=mrgM [x] []++mrgM [] (B.drop p):=vN (Nat.le_refl _) (fun z hz y hy=>by rw[List.mem_singleton.1 hz];exact h2 y hy) (fun y hy=>absurd hy (by simp))
 rw[wX,xU] at e2
 exact e2
def hiU (y:Mult) (A:List Mult) (p:Nat):Prop:=∀ z,z∈A.take p→¬ yF y.row z.row=true
def hiV (y:Mult) (A:List Mult) (p:Nat):Prop:=∀ z,z∈A.drop p→yF y.row z.row=true
theorem zN6 {y:Mult}{A:List Mult}(h:Srt A){r:Nat}(hr:r<A.length):∃ z,A[r]?=some z∧(yF y.row z.row=true→hiV y A r)∧(¬ yF y.row z.row=true→hiU y A (r+1)):=by
 obtain⟨z,hz⟩:=sX hr
 exact⟨z,hz,fun g w hw=>fH g (pV h hz w hw),fun g w hw k=>g (fH k (pU h hz w hw))⟩
theorem zQ4 {y:Mult}{A:List Mult}{p:Nat}(h1:hiU y A p)(h2:hiV y A p):mrgM A [y]=A.take p++y::A.drop p:=by
 have e:mrgM (A.take p++A.drop p) ([]++[y])=mrgM (A.take p) []++mrgM (A.drop p) [y]:=vN (Nat.le_refl _) (fun z hz w hw=>by rw[List.mem_singleton.1 hw];exact h1 z hz) (fun w hw=>absurd hw (by simp))
 rw[List.take_append_drop,xU] at e
 rw[show mrgM A [y]=mrgM A ([]++[y]) from rfl,e]
 congr 1
 rw[eM h2,xU]
def shA (P:List Mult) (x:Mult) (B S:List Mult) (p:Nat):List Mult:=P++(B.take p++x::(B.drop p++S))
theorem zGM (P:List Mult)(x:Mult)(B S:List Mult)(p:Nat):(shA P x B S p).length=P.length+1+B.length+S.length:=by
 unfold shA
 simp only[List.length_append,List.length_cons,List.length_take,List.length_drop]
 omega
theorem zDH (P:List Mult)(x:Mult)(B S:List Mult){p:Nat}(hp:p<B.length):∃ y,(shA P x B S p)[P.length+p]?=some x∧(shA P x B S p)[P.length+p+1]?=some y ∧
  shA P x B S (p+1)=((shA P x B S p).set (P.length+p) y).set (P.length+p+1) x∧(shA P x B S (p+1))[P.length+p]?=some y∧(shA P x B S (p+1))[P.length+p+1]?=some x ∧
  shA P x B S p=((shA P x B S (p+1)).set (P.length+p+1) y).set (P.length+p) x:=by
 obtain⟨y,hy⟩:=sX hp
 have dB:B.drop p=y::B.drop (p+1):=by
  obtain⟨h1,h2⟩:=List.getElem?_eq_some_iff.1 hy
  rw[List.drop_eq_getElem_cons h1,h2]
 have tB:B.take (p+1)=B.take p++[y]:=by rw[List.take_add_one,hy];rfl
 have lB:(B.take p).length=p:=by rw[List.length_take];omega
 unfold shA
 rw[dB,tB]
 generalize B.take p=B1 at *
 generalize B.drop (p+1)=B2 at *
 have e1:∀ z w,P++(B1++z::(w::B2++S))=(P++B1)++z::(w::B2++S):=fun z w=>by simp
 have e2:∀ z w,(P++B1)++z::(w::B2++S)=(P++B1++[z])++w::(B2++S):=fun z w=>by simp
 have e3:P++(B1++[y]++x::(B2++S))=(P++B1)++y::(x::B2++S):=by simp
 have l1:P.length+p=(P++B1).length:=by rw[List.length_append];omega
 have l2:∀ z,P.length+p+1=(P++B1++[z]).length:=fun z=>by simp only[List.length_append,List.length_cons,List.length_nil];omega
 refine⟨y,?_,?_,?_,?_,?_,?_⟩
 ·rw[e1];exact cK l1
 ·rw[e1,e2];exact cK (l2 _)
 ·rw[e1,dJ l1 y,e2,dJ (l2 _) x,e3,e2]
 ·rw[e3];exact cK l1
 ·rw[e3,e2];exact cK (l2 _)
 ·rw[e3,e2,dJ (l2 _) y,←e2,dJ l1 x,e1]
def syU (A B:List Mult) (a mid c:Nat):Prop:=∀ z,z∈A.take (c - a)→∀ y,y∈B.drop (mid - c)→¬ yF y.row z.row=true
def syV (A B:List Mult) (a mid c:Nat):Prop:=∀ y,y∈B.take (mid - c)→∀ z,z∈A.drop (c - a)→yF y.row z.row=true
theorem zM3 {A B:List Mult}(hA:Srt A)(hB:Srt B){a mid c:Nat}(h1:a≤c)(h2:c - a<A.length)(h3:c<mid)(h4:mid - 1 - c<B.length) :
  ∃ x y,A[c - a]?=some x∧B[mid - 1 - c]?=some y∧(yF y.row x.row=true→syV A B a mid c)∧(¬ yF y.row x.row=true→syU A B a mid (c+1)):=by
 obtain⟨x,hx⟩:=sX h2
 obtain⟨y,hy⟩:=sX h4
 refine⟨x,y,hx,hy,fun g w hw z hz=>?_,fun g z hz w hw k=>?_⟩
 ·rw[show mid - c=mid - 1 - c+1 by omega] at hw
  exact aN (pU hB hy w hw) (fH g (pV hA hx z hz))
 ·rw[show c+1 - a=c - a+1 by omega] at hz
  rw[show mid - (c+1)=mid - 1 - c by omega] at hw
  exact g (aN (pV hB hy w hw) (fH k (pU hA hx z hz)))
theorem zR4 {A B:List Mult}{a mid c:Nat}(h:c=a∨mid=B.length+c):syU A B a mid c:=by
 intro z hz y hy
 rcases h with h | h
 ·rw[h,Nat.sub_self,List.take_zero] at hz;exact absurd hz (by simp)
 ·rw[List.drop_of_length_le (by omega)] at hy;exact absurd hy (by simp)
theorem zR5 {A B:List Mult}{a mid c:Nat}(h:c=mid∨c=a+A.length):syV A B a mid c:=by
 intro y hy z hz
 rcases h with h | h
 ·rw[h,Nat.sub_self,List.take_zero] at hy;exact absurd hy (by simp)
 ·rw[List.drop_of_length_le (by omega)] at hz;exact absurd hz (by simp)
theorem zP9 {A B:List Mult}{a mid c:Nat}(h1:syU A B a mid c)(h2:syV A B a mid c):mrgM A B=mrgM (A.take (c - a)) (B.take (mid - c))++mrgM (A.drop (c - a)) (B.drop (mid - c)):=by
 have e:=vN (A1:=A.take (c - a)) (A2:=A.drop (c - a)) (B1:=B.take (mid - c)) (B2:=B.drop (mid - c)) (Nat.le_refl _) h1 h2
 rw[List.take_append_drop,List.take_append_drop] at e
 exact e
theorem zIY (i j:Nat)(h:i+j<2^40):nx .i64 (ishr .u64 (nx .u64 ((i:Int)+(j:Int))) 1)=(((i+j) / 2:Nat):Int):=by
 rw[show (i:Int)+(j:Int)=((i+j:Nat):Int) by omega,xA (by omega),show (1:Int)=((1:Nat):Int) from rfl,zD1 (by decide),mW (by omega) (by omega)]
theorem sSwp (P X Q Y S R0 R1:List Mult)(a b n N:Nat)(h:X.length=Y.length)(ha:a=P.length)(hb:b=P.length+X.length+Q.length)(hn:n=X.length)(hN:N=P.length+X.length+Q.length+Y.length+S.length)(hl:N<2^38)
  (e0:R0=P++(X++(Q++(Y++S)))) (e1:R1=P++(Y++(Q++(X++S)))) :
  Sound 228 [.osl 1000000 7 (fun _=>0) (fun _=>N),.int .i64 (fun _=>(a:Int)),.int .i64 (fun _=>(b:Int)),.int .i64 (fun _=>(n:Int)),.fn 119 []] (mao 1000000 R0) [] (.tup []) (mao 1000000 R1) []:=by
 refine sF Tryz.f228 ?_
 obtain⟨A,hA⟩:∃ A:Nat→List Mult,∀ i,A i=swA P X Q Y S i:=⟨_,fun _=>rfl⟩
 have h0:A 0=R0:=by rw[hA,zI7,e0]
 have h1:A n=R1:=by rw[hA,hn,zM5 P X Q Y S h,e1]
 have hL:∀ i,(A i).length=N:=fun i=>by rw[hA,zM4 P X Q Y S h,hN]
 have hst:∀ i,i<n→∃ x y,(A i)[a+i]?=some x∧(A i)[b+i]?=some y∧A (i+1)=((A i).set (a+i) y).set (b+i) x:=fun i hi=>by
  rw[hA,hA,ha,hb]
  exact zI8 P X Q Y S h (by omega)
 have hab:a+n≤b:=by omega
 have hbn:b+n≤N:=by omega
 clear hA ha hb hn hN e0 e1 h
 cbv
 refine zY (σ:=Nat) (fun i=>⟨[(0,.osl 1000000 7 (fun _=>0) (fun _=>N)),(1,.int .i64 (fun _=>(a:Int))),(2,.int .i64 (fun _=>(b:Int))),(3,.int .i64 (fun _=>(n:Int))),(10,.int .i64 (fun _=>(i:Int)))],[(1000000,.arr 7 (fun _=>enc mc (A i)))]⟩)
  (fun i=>i≤n) (fun i=>n - i) 0 (Nat.zero_le _) (.le ?_ ?_ rfl) ?_
 ·cbv;exact⟨lR,lR,lR,lR,zC (by rfl),trivial⟩
 ·cbv;exact⟨zF (by rw[h0]),trivial⟩
 intro i hi
 cbv
 refine zH (fun h5=>?_) (fun h5=>?_)
 ·have hlt:i<n:=by (try dsimp only [zG] at *);omega
  obtain⟨x,y,hx,hy,hs⟩:=hst i hlt
  have hLi:=hL i
  clear hst hL h0 h1
  generalize A i=arr at *
  cbv
  refine l8 23 21 (by cbv) (by cbv) ?_
  cbv
  refine⟨zD om om,zD om om,zD om om,yD om om,?_⟩
  cbv
  refine wY (l:=arr) (b+i) om (by omega) yS yO (fun t ht=>?_)
  obtain rfl:y=t:=by rw[hy] at ht;exact Option.some.inj ht
  cbv
  refine⟨zD om om,yD om om,?_⟩
  cbv
  refine wY (l:=arr) (a+i) om (by omega) yS yO (fun t ht=>?_)
  obtain rfl:x=t:=by rw[hx] at ht;exact Option.some.inj ht
  cbv
  refine⟨yD om om,?_⟩
  cbv
  refine wY (l:=arr) (a+i) om (by omega) yS yO (fun t0 ht0=>?_)
  cbv
  refine⟨yD om om,l7 (p:=mc) (arr.set (a+i) y) ?_ (b+i) om (by rw[List.length_set];omega) yS yO (fun t1 ht1=>?_)⟩
  ·show (enc mc arr).set (0+((a:Int)+(i:Int)).toNat) (yW (mc y))=_
   rw[w5]
   congr 2
   omega
  cbv
  refine⟨zD om om,i+1,hlt,om,.le ?_ ?_ rfl⟩
  ·cbv
   exact⟨lR,lR,lR,lR,zC om,trivial⟩
  ·cbv
   refine⟨zF ?_,trivial⟩
   show ((enc mc arr).set (0+((a:Int)+(i:Int)).toNat) (yW (mc y))).set (0+((b:Int)+(i:Int)).toNat) (yW (mc x))=_
   rw[w5,w5,show 0+((a:Int)+(i:Int)).toNat=a+i by omega,show 0+((b:Int)+(i:Int)).toNat=b+i by omega,hs]
 ·have hi':i=n:=by (try dsimp only [zG] at *);omega
  subst hi'
  cbv
  refine u9 (.le (ps':=⟨[],[(1000000,.arr 7 (fun _=>enc mc R1))]⟩) ?_ ?_ rfl) rfl trivial rfl rfl rfl rfl
  ·trivial
  ·cbv
   exact⟨zF (by rw[h1]),trivial⟩
theorem sRot (P X Y S R0 R1:List Mult)(a m b N:Nat)(hX:0<X.length)(hY:0<Y.length)(ha:a=P.length)(hm:m=a+X.length)(hb:b=m+Y.length)(hN:N=b+S.length)(hl:N<2^38)
  (e0:R0=P++(X++(Y++S))) (e1:R1=P++(Y++(X++S))) :
  Sound 219 [.osl 1000000 7 (fun _=>0) (fun _=>N),.int .i64 (fun _=>(a:Int)),.int .i64 (fun _=>(m:Int)),.int .i64 (fun _=>(b:Int)),.fn 119 []] (mao 1000000 R0) [] (.tup []) (mao 1000000 R1) []:=by
 refine sF Tryz.f219 ?_
 cbv
 refine⟨zD om om,zD om om,?_⟩
 refine zY (σ:=List Mult × List Mult × List Mult × List Mult) (fun s=>⟨[(0,.osl 1000000 7 (fun _=>0) (fun _=>N)),(2,.int .i64 (fun _=>(m:Int))),(4,.fn 119 []),(10,.int .i64 (fun _=>(s.2.1.length:Int))),(11,.int .i64 (fun _=>(s.2.2.1.length:Int)))],[(1000000,.arr 7 (fun _=>enc mc (s.1++(s.2.1++(s.2.2.1++s.2.2.2)))))]⟩)
  (fun s=>s.1.length+s.2.1.length=m∧m+s.2.2.1.length+s.2.2.2.length=N∧0<s.2.1.length∧0<s.2.2.1.length∧R1=s.1++(s.2.2.1++(s.2.1++s.2.2.2))) (fun s=>s.2.1.length+s.2.2.1.length) (P,X,Y,S) ⟨om,om,hX,hY,e1⟩ (.le ?_ ?_ rfl) ?_
 ·cbv;exact⟨lR,lR,zC om,zC om,trivial⟩
 ·cbv;exact⟨zF (by rw[e0]),trivial⟩
 clear e0 e1 ha hm hb hN hX hY
 intro s hs
 obtain⟨g1,g2,g3,g4,g5⟩:=hs
 generalize s.1=L at *
 generalize s.2.1=U at *
 generalize s.2.2.1=V at *
 generalize s.2.2.2=R at *
 cbv
 refine zH (fun h5=>?_) (fun h5=>?_)
 ·have hUV:U.length=V.length:=by (try dsimp only [zG] at *);omega
  have c:=sSwp L U [] V R (L++(U++(V++R))) R1 L.length m U.length N hUV rfl (by simp only[List.length_nil];omega) rfl (by simp only[List.length_nil];omega) hl rfl g5
  cbv
  refine⟨zD om om,?_⟩
  refine y8 (fun n=>n) (Wk.sel _ [50,53,54,55,56] [1000000] rfl) rfl (by exact⟨lR,zC om,lR,lR,⟨rfl,trivial⟩,trivial⟩) c ⟨⟨rfl,rfl⟩,trivial⟩ rfl rfl rfl rfl rfl rfl rfl rfl ?_
  cbv
  refine u9 (.le (ps':=⟨[],[(1000000,.arr 7 (fun _=>enc mc R1))]⟩) ?_ ?_ rfl) rfl trivial rfl rfl rfl rfl
  ·trivial
  ·cbv
   exact⟨zF rfl,trivial⟩
 ·have hUV:U.length≠V.length:=fun e=>h5 om
  cbv
  refine zH (fun h6=>?_) (fun h6=>?_)
  ·have hlt:V.length<U.length:=by (try dsimp only [zG] at *);omega
   obtain⟨U1,U2,hU,l1,l2⟩:∃ U1 U2,U=U1++U2∧U1.length=V.length∧U2.length=U.length - V.length:=⟨U.take V.length,U.drop V.length,(List.take_append_drop _ _).symm,by rw[List.length_take];omega,List.length_drop⟩
   have c:=sSwp L U1 U2 V R (L++(U++(V++R))) (L++(V++(U2++(U1++R)))) L.length m V.length N l1 rfl (by omega) (by omega) (by omega) hl (by rw[hU];simp) rfl
   have e2:L++(V++(U2++(U1++R)))=(L++V)++(U2++(U1++R)):=by simp
   cbv
   refine⟨zD om om,?_⟩
   refine y8 (fun n=>n) (Wk.sel _ [2,4,10,11,0,24,27,28,29,30] [1000000] rfl) rfl (by exact⟨lR,zC om,lR,lR,⟨rfl,trivial⟩,trivial⟩) c ⟨⟨rfl,rfl⟩,trivial⟩ rfl rfl rfl rfl rfl rfl rfl rfl ?_
   cbv
   refine⟨zD om om,(L++V,U2,U1,R),⟨by simp only[List.length_append];omega,by simp only[List.length_append];omega,by simp only[];omega,by simp only[];omega,by rw[g5,hU];simp⟩,by simp only[];omega,.le ?_ ?_ rfl⟩
   ·cbv
    exact⟨lR,lR,zC om,zC om,trivial⟩
   ·cbv
    exact⟨zF (by rw[←e2]),trivial⟩
  ·have hlt:U.length<V.length:=by (try dsimp only [zG] at *);omega
   obtain⟨V1,V2,hV,l1,l2⟩:∃ V1 V2,V=V1++V2∧V2.length=U.length∧V1.length=V.length - U.length:=⟨V.take (V.length - U.length),V.drop (V.length - U.length),(List.take_append_drop _ _).symm,by rw[List.length_drop];omega,by rw[List.length_take];omega⟩
   have c:=sSwp L U V1 V2 R (L++(U++(V++R))) (L++(V2++(V1++(U++R)))) L.length (m+V.length - U.length) U.length N l1.symm rfl (by omega) rfl (by omega) hl (by rw[hV];simp) rfl
   have e2:L++(V2++(V1++(U++R)))=L++(V2++(V1++(U++R))):=rfl
   cbv
   refine⟨zD om om,zD om om,zD om om,?_⟩
   refine y8 (fun n=>n) (Wk.sel _ [2,4,10,11,0,35,38,43,44,45] [1000000] rfl) rfl (by exact⟨lR,zC om,zC om,lR,⟨rfl,trivial⟩,trivial⟩) c ⟨⟨rfl,rfl⟩,trivial⟩ rfl rfl rfl rfl rfl rfl rfl rfl ?_
   cbv
   refine⟨zD om om,(L,V2,V1,U++R),⟨by simp only[];omega,by simp only[List.length_append];omega,by simp only[];omega,by simp only[];omega,by rw[g5,hV];simp⟩,by simp only[];omega,.le ?_ ?_ rfl⟩
   ·cbv
    exact⟨lR,lR,zC om,zC om,trivial⟩
   ·cbv
    exact⟨zF rfl,trivial⟩
end Go.Proofs.YtgcpehdkdnkgeaaGreat
