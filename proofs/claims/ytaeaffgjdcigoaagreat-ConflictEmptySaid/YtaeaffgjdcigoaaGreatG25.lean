/- A part of the proof: LwA, LwB, PlD, BrA, BrB, SpA, SpB, SpC, SpD, SpE, SpF, SpG, SpH. -/
import Derived.Test.YtaeaffgjdcigoaaGreatG24
import Derived.Test.YtaeaffgjdcigoaaGreatG22
import Derived.Test.YtaeaffgjdcigoaaGreatG39
import Derived.Test.YtaeaffgjdcigoaaGreatG20
import Derived.Test.YtaeaffgjdcigoaaGreatRows
import Derived.Deep.Slices
import Derived.Deep.Strs
import Derived.Lib.SmallJoins
import Derived.KernelRfl
import Derived.ProofKit
import Derived.OpenShut
import Derived.ReadAgain
import Derived.ChangeStays
import Derived.Test.YtaeaffgjdcigoaaGreatG19
set_option linter.all false
namespace Go.Proofs.YtaeaffgjdcigoaaGreat
open Go
set_option maxRecDepth 100000
set_option maxHeartbeats 2000000

def UN {f:F}{k n:Nat}(h:f.fl k n)(hn:n<2^38):(fA f).sz k:=(h.fit hn).fA
def rR {b:Bool}{A B:Unit->Prop}(h:b=true)(h1:A ()):Br (λ_=>b) A B:=yA (λ_=>h1) (λg=>by rw[h] at g;cases g)
def Tb {b:Bool}{A B:Unit->Prop}(h:b=false)(h1:B ()):Br (λ_=>b) A B:=yA (λg=>by rw[h] at g;cases g) (λ_=>h1)
def dY {b:Bool}{A B:(Exit->PS->Prop)->Prop}{Q:Exit->PS->Prop}(h:b=true)(h1:A Q):Cut (λ_=>b) A B Q:=zP (λ_=>h1) (λg=>by rw[h] at g;cases g)
def Yc {b:Bool}{A B:(Exit->PS->Prop)->Prop}{Q:Exit->PS->Prop}(h:b=false)(h1:B Q):Cut (λ_=>b) A B Q:=zP (λg=>by rw[h] at g;cases g) (λ_=>h1)
theorem Qo (a b:Row):vH a b=true↔(a.k<b.k\/(a.k=b.k/\(a.i<b.i\/(a.i=b.i/\(a.lo<b.lo\/(a.lo=b.lo/\a.hi<b.hi)))))):=by unfold vH;grind
def MA {a:Row}(h:vH a a=true):False:=by grind [Qo]
def Be {a b c:Row}(h:vH a b=true)(g:vH b c=true):vH a c=true:=by grind [Qo]
theorem Mz (a b:Row):vH a b=true\/a=b\/vH b a=true:=by rw[Qo,Qo];obtain⟨a1,a2,a3,a4⟩:=a;obtain⟨b1,b2,b3,b4⟩:=b;grind
structure Rs (l:List (Row×Rat)):Prop where
 s:l.Pairwise (λa b=>vH a.1 b.1=true)
 p:∀ t,t∈l->0<t.2
theorem Rs.nil:Rs []:=⟨.nil,by simp⟩
theorem Rs.tail {t l}(h:Rs (t::l)):Rs l:=⟨(cG.1 h.s).2,λu hu=>h.p u (xQ _ hu)⟩
theorem Rs.lt {t l}(h:Rs (t::l)):∀ u,u∈l->vH t.1 u.1=true:=(cG.1 h.s).1
theorem Rs.hd {t l}(h:Rs (t::l)):0<t.2:=h.p t xV
theorem Rs.cons {t l}(h:Rs l)(h1:∀ u,u∈l->vH t.1 u.1=true)(h2:0<t.2):Rs (t::l) :=
 ⟨cG.2 ⟨h1,h.s⟩,λu hu=>by rcases yI.1 hu with rfl|hu <;> first|exact h2|exact h.p u hu⟩
def cor:List (Row×Rat)->Row->Rat
 |[],_=>0| t::r,w=>(if t.1=w then t.2 else 0)+cor r w
def Nw (a b:Row):dF a b<0↔vH a b=true:=by rw[Ug,decide_eq_true_eq]
theorem cJ {q:Rat}:0<z3 q↔0<q:=by grind [z3]
theorem tF {q:Rat}:z3 q<0↔q<0:=by grind [z3]
theorem V9 {q:Rat}:z3 q=0↔q=0:=by grind [z3]
theorem Qx {r:Row}{q:Rat}:∀ {l:List (Row×Rat)} {u},u∈plM r q l->u.1=r\/∃ t,t∈l/\t.1=u.1
 |[],u,h=>by
  (have:u=(r,q):=by grind [plM]);grind
 |t::rest,u,h=>by
  unfold plM at h;split at h
  ·rcases yI.1 h with rfl|h;{grind}
   ·rcases Qx h with h|⟨v,h1,h2⟩
    all_goals grind
  grind
theorem C7 {r:Row}{q:Rat}(hq:0<q):∀ {l:List (Row×Rat)},Rs l->Rs (plM r q l)
 |[],_=>Rs.nil.cons (by simp) hq| t::rest,h=>by
  unfold plM;split;{rename_i hlt;refine (C7 hq h.tail).cons (λu hu=>?_) h.hd;rcases Qx hu with e|⟨v,h1,h2⟩;{grind};{rw[<-h2];exact h.lt v h1}}
  ·rename_i hlt;split;{rename_i e;have:=h.hd;exact h.tail.cons (λu hu=>by rw[<-e];exact h.lt u hu) (by grind)}
   ·(rename_i e;have hlt':vH r t.1=true:=by grind [Mz]);refine h.cons (λu hu=>?_) hq
    rcases yI.1 hu with rfl|hu;{omega};{exact Be hlt' (h.lt u hu)}
def RZ {l:List (Row×Rat)}{r:Row}{q:Rat}(h:Rs l)(hq:0<=q):Rs (plMq l r q):=by grind [plMq,V9,C7]
theorem Ka:∀ {l:List (Row×Rat)} {p:Option Row},Rs l->(∀ w,p=some w->∀ t,t∈l->vH w t.1=true)->uN p (mR l)=true
 |[],p,_,_=>by cases p <;> rfl
 |t::r,none,h,hp=>by show (decide (0<z3 (zG t.2).q)&&((zG t.2).ok&&(true&&uN (some t.1) (mR r))))=true;rw[zV,lE,decide_eq_true (cJ.2 h.hd),Ka h.tail (λw e u hu=>by cases e;exact h.lt u hu)];rfl
 |t::r,some w,h,hp=>by show (decide (0<z3 (zG t.2).q)&&((zG t.2).ok&&(decide (dF w t.1<0)&&uN (some t.1) (mR r))))=true;rw[zV,lE,decide_eq_true (cJ.2 h.hd),Ka h.tail (λw e u hu=>by cases e;exact h.lt u hu),decide_eq_true ((Nw _ _).2 (hp w rfl t xV))];rfl
abbrev InW (w:World) (b i:Nat):Prop:=b<w.heap.size
def Cs (w:World):List Value->List D->Prop
 |[],[]=>True| v::vs,d::ds=>(RepD w (InW w) v d/\v.oneCell'=true)/\Cs w vs ds| _,_=>False
theorem Cs.len {w}:∀ {a x},Cs w a x->a.length=x.length
 |[],[],_=>rfl| _::_,_::_,h=>by simp[Cs.len h.2]
theorem Cs.get {w}:∀ {a x},Cs w a x->∀ j,j<x.length->RepD w (InW w) (a.getD j undef) (x.getD j .any)/\(a.getD j undef).oneCell'=true
 |[],[],_,j,hj=>absurd hj (by simp)| _::_,_::_,h,0,_=>h.1| _::_,_::_,h,j+1,hj=>by simpa using Cs.get h.2 j (by simpa using hj)
structure ElR (w:World) (t:TypeId) (k:Nat) {α:Type} (G:α->Prop) (p:α->List PV):Prop where
 sz:Tryz.prog.cellsOf t=k
 rd:∀ {H:Type} {enc:TypeId×Value->H} {sp:Nat->Bool} {n:Nat} {cs:List Value} {x:DataW H×List MemPlace},DataW.trod enc Tryz.prog w 0 sp true n t cs=some x->∃ a,G a/\Cs w cs (xE (p a))
theorem ElR.map {w t k}{α β:Type}{G:α->Prop}{p:α->List PV}{G':β->Prop}{p':β->List PV}(h:ElR w t k G p)(f:α->β)(hp:∀ a,G a->xE (p' (f a))=xE (p a))(hG:∀ a,G a->G' (f a)):ElR w t k G' p' :=
 ⟨h.sz,λhx=>by obtain⟨a,h1,h2⟩:=h.rd hx;grind⟩
def L6 {w t}{k:IntKind}(ht:Tryz.prog.underlying t=some (.int k))(hs:Tryz.prog.cellsOf t=1):ElR w t 1 (λn=>(Lit.int k n).wf=true) (λn=>[.int k (λ_=>n)]) :=
 ⟨hs,λ{H enc sp n cs x} hx=>by
  cases n with
  |zero=>simp[DataW.trod] at hx| succ n =>
   (unfold DataW.trod at hx;rw[ht] at hx;split at hx <;> simp_all);obtain⟨⟨rfl,h2⟩,_⟩:=hx
   exact⟨_,h2,⟨.int _ _,rfl⟩,trivial⟩⟩
theorem NH {b o n:Nat}:(⟨b,o,none⟩:Addr).add n=⟨b,o+n,none⟩:=by grind [Addr.add]
def Pn {w t e k}{α:Type}{G:α->Prop}{p:α->List PV}(ht:Tryz.prog.underlying t=some (.slice e))(hs:Tryz.prog.cellsOf t=1)(hk:0<k)(he:ElR w e k G p):ElR w t 1 (λl:List α=>(∀ a,a∈l->G a)/\l.length<=maxLen) (λl=>[.sl (λ_=>enc p l)]) :=
 ⟨hs,λ{H enc' sp n cs x} hx=>by
  (rcases Go.Deep.open_slice ht hx with⟨rfl,_⟩|⟨a,len,cap,m,n',D,Pl,rfl,hb,hl,hm,hmm,_,hi⟩;{exact⟨[],⟨λ_ h=>absurd h (by simp),yU _⟩,⟨.sl0 _ _,rfl⟩,trivial⟩};have hlm:len<=m:=by grind);rcases Vl len with h0|h0
  {subst h0;exact⟨[],⟨λ_ h=>absurd h (by simp),yU _⟩,⟨.sl0 _ _,rfl⟩,trivial⟩};rw[he.sz] at hi;have key:∀ i,i<len->∃ y:List Value×α,w.cells? 0 (a.add (i*k)) k=some y.1/\G y.2/\Cs w y.1 (xE (p y.2)):=λi hil=>by obtain⟨cs',h1,h2⟩:=hi i oM;obtain⟨y,g1,g2⟩:=he.rd h2;exact⟨(cs',y),h1,g1,g2⟩
  haveI:Inhabited (List Value×α):=⟨Classical.choose (key 0 h0)⟩
  (obtain⟨Y,hY⟩:=Go.Deep.choose_lt key;have hcell:∀ i j,i<len->j<k->w.cell? (a.add (i*k+j))=some ((Y i).1.getD j undef):=λi j hi' hj=>by obtain⟨h1,_,_⟩:=hY i hi';obtain⟨_,h2,h3⟩:=World.cells?_some h1;grind [Go.Deep.add_add]);obtain⟨b,o,sp'⟩:=a;have hsp:sp'=none:=by
   have:=hcell 0 0 h0 hk;unfold World.cell? at this;split at this
   ·cases sp' with
    |none=>rfl| some s=>grind [Addr.add]
   grind
  subst hsp;have hS:b<w.heap.size:=World.cells?_block (a:=⟨b,o,none⟩) (by have:=(hY 0 h0).1;rw[ZI] at this;exact this) hk
  (have hlen:((List.range len).map λi=>(Y i).2).length=len:=by simp);have hel:∀ i,i<len->(enc p ((List.range len).map λi=>(Y i).2)).getD i []=xE (p (Y i).2):=λi hi'=>by simp[Go.Proofs.YtaeaffgjdcigoaaGreat.enc,hi']
  (refine⟨(List.range len).map λi=>(Y i).2,⟨λz hz=>?_,by omega⟩,⟨?_,rfl⟩,trivial⟩;{grind};have hel2:(enc p ((List.range len).map λi=>(Y i).2)).length=len:=by rw[zA,hlen]);have hk':∀ i,i<len->(xE (p (Y i).2)).length=k:=λi hi'=>by obtain⟨h1,_,h3⟩:=hY i hi';obtain⟨_,h2,_⟩:=World.cells?_some h1;rw[<-h3.len];exact h2
  have:=RepD.sl (w:=w) (S:=InW w) (b:=b) (o:=o) (cap:=cap) (s:=k) (els:=enc p ((List.range len).map λi=>(Y i).2)) (λi j=>(Y i).1.getD j undef)
   (λh=>by grind) oM (λ_ _ _ _=>hS)
   (λe' he'=>by obtain⟨z,hz,rfl⟩:=xA.1 he';grind)
   (λi j hi' hj=>by grind [NH])
   (λi j hi' hj=>by rw[hel2] at hi';exact ((hY i hi').2.2.get j (by grind)).2)
   (λi j hi' hj=>by rw[hel2] at hi';rw[hel i hi'];exact ((hY i hi').2.2.get j (by grind)).1)
  rw[hel2] at this;exact this⟩
end Go.Proofs.YtaeaffgjdcigoaaGreat
namespace Go.Proofs.YtaeaffgjdcigoaaGreat
open Go Go.ChangeShapes Go.WideShapes Go.ChangeAt Go.RowKit
set_option maxRecDepth 100000
def own:ownKnob Tryz.prog.godebug=none:=by kernel_rfl
theorem OS:Kids Tryz.prog (·<Tryz.prog.types.size):=kids_rows (by kernel_rfl) (by kernel_rfl)
theorem Na:∀ t e,t<Tryz.prog.types.size->Tryz.prog.underlying t=some (.slice e)->0<Tryz.prog.cellsOf e:=slices_full_of _ (by kernel_rfl)
def iJ {H:Type}{enc:TypeId×Value->H}{W W':World}{sp:Nat->Bool}:∀ {ts:List TypeId} {vs:List Value} {ds:List (DataW H)} {ps:List MemPlace},(∀ t∈ts,t<Tryz.prog.types.size) ->DataW.TrodAll enc Tryz.prog W 0 (λ_=>true) true ts vs ds ps->(∀ p∈ps,W.sameAt W' p)->(∀ p∈ps,sp p.block=true)->DataW.TrodAll enc Tryz.prog W' 0 sp true ts vs ds ps
 |[],[],[],_,_,h,_,_=>h| _::_,_::_,_::_,_,hT,⟨p,q,⟨n,h1⟩,h2,e⟩,hs,hb=>by subst e;refine⟨p,q,⟨n,?_⟩,iJ (λt ht=>hT t (xQ _ ht)) h2 (λx hx=>hs x (Dc _ hx)) (λx hx=>hb x (Dc _ hx)),rfl⟩;grind [DataW.trod_respare,OS,Na,DataW.trod_carry]
def HD {W W':World}(hs:W.heap.size<=W'.heap.size)(ho:W'.os=W.os)(hu:W'.output=W.output)(hb:∀ b,b<W.heap.size->W'.heap[b]?=W.heap[b]?)(may:MemPlace->Prop):W.keptBut W' may:=by refine⟨ho,hu,λi hi=>?_⟩;grind
def Jl {s:ChangeSpec}{fn:Func}{H:Type}{enc:TypeId×Value->H}{W:World}{args:Array Value}{ds gs:List (DataW H)}{before:List MemPlace}{fresh handsOn again:Bool} (hv:s.vars=[]) (hres:fn.resultTypes=#[4]) (hsp:s.fn H ds={ results:=[.lit (.bool true)],args:=ds }) (hp:∀ t∈fn.params.toList,t<Tryz.prog.types.size)
  (hW:DataW.Whole enc Tryz.prog fn.params.toList s.vars false W args.toList ds gs before)
  {f:FuncId} {pvs:List PV} (hS:zD f pvs (bV true)) (hn:args.size=pvs.length) (hrep:∀ j,j<pvs.length->Rep W (InW W) β0 (args.getD j undef) (pvs.getD j .any)) :
  Calls Tryz.prog f args W λe W'=>∃ v,e=.returned v/\s.post enc Tryz.prog fn false fresh handsOn again W args v W':=by
 have hgo:=hS.go W (InW W) β0 args (λb i h=>h) BF hn hrep;rw[uZ] at hgo;refine hgo.mono λe W' ⟨v,S',β',he,hl,hr,_⟩=>?_;subst he;have hvt:v=.bool true:=by
  cases hr with
  |c hf h=>cases h;rfl
 subst hvt;refine⟨_,rfl,?_⟩;have hsame:∀ b,b<W.heap.size->W'.heap[b]?=W.heap[b]?:=λb hb=>hl.same b hb (λ⟨n,o,h,_⟩=>by simp at h);have hlt:=hW.lt;have hW0:=hW;obtain⟨p,q,hA,hV,rfl,hfz,hnd⟩:=hW;rw[hv] at hV;obtain⟨rfl,rfl⟩:=trodVars_none hV;rw[kN] at hlt hfz hW0;have hat:∀ x∈p,W.sameAt W' x:=λx hx=>by
  have:=hlt x hx;cases x with
  |cell b o=>show W'.cell? _=W.cell? _;unfold World.cell?;rw[hsame b this]| map b=>exact hsame b this
 have hargs:∀ sp:Nat->Bool,(∀ x∈p,sp x.block=true)->DataW.TrodAll enc Tryz.prog W' 0 sp true fn.params.toList args.toList ds p:=λsp h=>iJ hp hA hat h;have hold:∀ x∈p,(λb=>decide (b<W.heap.size)) x.block=true:=λx hx=>by grind
 have hrs:∀ (b:Nat) (sp:Nat->Bool) (hd:Bool),DataW.TrodAll enc Tryz.prog W' b sp hd fn.resultTypes.toList ((Value.bool true).resultList fn.resultTypes.size) [.lit (.bool true)] []:=λb sp hd=>by rw[hres];exact⟨[],[],shut_bool Tryz.underlying4 true,rfl,rfl⟩
 have hfz':W'.noneFrozen p:=λb o h=>by have g:=hfz b o h;have hb:b<W.heap.size:=hlt _ h;grind [World.frozen?]
 refine⟨ds,[],p,[],p,[],hW0,?_,?_,?_,?_,λ_=>⟨?_,ds.cons (.lit (.bool true)),[],p,⟨p,[],?_,?_,by simp,hfz',λh=>by cases h⟩,λx hx _=>hx⟩⟩;{grind};{grind};{rw[kN,hsp,hv];rfl};{exact HD hl.size hl.os hl.output hsame _};{exact ok_one hres rfl (okWide_bool_mk Tryz.underlying4 _)};{exact trodAll_append (hargs _ (λ_ _=>rfl)) (hrs _ _ _)};{rw[hv];rfl}
end Go.Proofs.YtaeaffgjdcigoaaGreat
namespace Go.Proofs.YtaeaffgjdcigoaaGreat
open Go
def fdN (raw:List UInt8) (n a:Nat):Nat:=match raw[a]? with
 |some b=>b.toNat%n| none=>0
def na (raw:List UInt8) (a:Nat):Nat:=if a<raw.length then a+1 else a
def kI {raw:List UInt8}{n a:Nat}(h:0<n):fdN raw n a<n:=by unfold fdN;split;{exact vZ _ h};omega
def dN {raw:List UInt8}{a:Nat}(h:a<=raw.length):na raw a<=raw.length:=by grind [na]
def dnm:Nat->Int
 |0=>1| 1=>1| 2=>2| _=>4
def FQ (k:Nat):1<=dnm k/\dnm k<=4:=by unfold dnm;grind
def fdQ (raw:List UInt8) (a:Nat):Rat×Nat:=(rB ((fdN raw 9 a:Int)-4) (dnm (fdN raw 4 (na raw a))),na raw (na raw a))
def Am {a b:Int}(h1:a.natAbs<B)(h2:0<b)(h3:b.natAbs<B):Fits 1 (rB a b):=by obtain⟨d,hd⟩:∃ d:Nat,b=(d:Int):=⟨b.toNat,by omega⟩;subst hd;unfold rB;rw[Vv];exact sR (by grind) (by grind) oM
def jO (raw:List UInt8)(a:Nat):Fits 1 (fdQ raw a).1:=by have h1:=kI (raw:=raw) (n:=9) (a:=a) (by decide);obtain⟨h2,h3⟩:=FQ (fdN raw 4 (na raw a));have hB:B=4294967296:=rfl;exact Am oM oM oM
def mN (raw:List UInt8):Nat->Nat->F->Nat->F×Nat
 |0,_,f,a=>(f,a)| n+1,v,f,a=>if 0<fdN raw 3 a then mN raw n (v+1) (f.add ((F.var v).scale (fdQ raw (na raw a)).1)) (fdQ raw (na raw a)).2 else mN raw n (v+1) f (na raw a)
def fdF (raw:List UInt8) (n a:Nat):F×Nat:=mN raw n 0 (F.num (fdQ raw a).1) (fdQ raw a).2
def QZ (raw:List UInt8):∀ (n v:Nat) (f:F) (a k m:Nat),f.fl k m->(mN raw n v f a).1.fl (k+6*n) (m+n)
 |0,_,_,_,_,_,h=>h| n+1,v,f,a,k,m,h=>by unfold mN;split;{exact (QZ raw n _ _ _ (k+6) (m+1) ((h.add ((gO _).scale (jO raw _))).mono oM oM)).mono oM oM};{exact (QZ raw n _ _ _ k m h).mono oM oM}
def Ax (raw:List UInt8)(n a:Nat):(fdF raw n a).1.fl (1+6*n) n:=(QZ raw n 0 _ _ 1 0 (u6 (jO raw a))).mono oM oM
def eG {raw:List UInt8}{a:Nat}(h:a<=raw.length):(fdQ raw a).2<=raw.length:=dN (dN h)
def QY {raw:List UInt8}:∀ {n v:Nat} {f:F} {a:Nat},a<=raw.length->(mN raw n v f a).2<=raw.length
 |0,_,_,_,h=>h| n+1,v,f,a,h=>by unfold mN;split;{exact QY (eG (dN h))};{exact QY (dN h)}
def Q0 {raw:List UInt8}{n a:Nat}(h:a<=raw.length):(fdF raw n a).2<=raw.length:=QY (eG h)
def fdL (raw:List UInt8) (d:Nat):Nat->Nat->Nat->List F×Nat
 |0,_,a=>([],a)| n+1,v,a=>((fdF raw v a).1::(fdL raw d n (v+d) (fdF raw v a).2).1,(fdL raw d n (v+d) (fdF raw v a).2).2)
theorem aJ (raw:List UInt8)(d:Nat):∀ n v a,(fdL raw d n v a).1.length=n
 |0,_,_=>rfl| n+1,v,a=>by simp only[fdL,bK,aJ raw d n]
def QU {raw:List UInt8}{d:Nat}:∀ {n v a},a<=raw.length->(fdL raw d n v a).2<=raw.length
 |0,_,_,h=>h| n+1,v,a,h=>QU (n:=n) (Q0 h)
def QV {raw:List UInt8}{d:Nat}:∀ {n v a:Nat} {f:F},f∈(fdL raw d n v a).1->f.fl (1+6*(v+d*n)) (v+d*n)
 |0,_,_,f,h=>absurd h (by simp[fdL])| n+1,v,a,f,h=>by simp only[fdL,yI] at h;have e:d*(n+1)=d*n+d:=Yl d n;rcases h with rfl|h;{exact (Ax raw v a).mono oM oM};{exact (QV h).mono oM oM}
structure FGrp where
 n:Nat
 us:List F
 os:List F
def FGrp.g (x:FGrp):Grp:=⟨x.n,x.us.map fA,x.os.map fA⟩
def fdG (raw:List UInt8) (a:Nat):FGrp×Nat :=
 let n:=1+fdN raw 3 a
 let a1:=na raw a
 let u:=fdN raw 5 a1
 let a2:=na raw a1
 let o:=1+fdN raw 3 a2
 let a3:=na raw a2
 let U:=fdL raw 1 u n a3
 let O:=fdL raw 0 o (n+u) U.2
 (⟨n,U.1,O.1⟩,O.2)
structure FGrp.small (x:FGrp):Prop where
 n1:1<=x.n
 n2:x.n<=3
 us:x.us.length<=4
 o1:1<=x.os.length
 o2:x.os.length<=3
 uf:∀ f,f∈x.us->f.fl 43 7
 of:∀ f,f∈x.os->f.fl 43 7
def UQ (raw:List UInt8)(a:Nat):(fdG raw a).1.small:=by have h1:=kI (raw:=raw) (n:=3) (a:=a) (by decide);have h2:=kI (raw:=raw) (n:=5) (a:=na raw a) (by decide);have h3:=kI (raw:=raw) (n:=3) (a:=na raw (na raw a)) (by decide);refine⟨?_,?_,?_,?_,?_,λf hf=>?_,λf hf=>?_⟩;{show 1<=1+fdN raw 3 a;omega};{show 1+fdN raw 3 a<=3;omega};{show (fdL raw 1 _ _ _).1.length<=4;grind [aJ]};{show 1<=(fdL raw 0 _ _ _).1.length;grind [aJ]};{show (fdL raw 0 _ _ _).1.length<=3;grind [aJ]};{have:=QV (f:=f) (raw:=raw) (d:=1) hf;exact this.mono oM oM};{have:=QV (f:=f) (raw:=raw) (d:=0) hf;exact this.mono oM oM}
def Av {raw:List UInt8}{a:Nat}(h:a<=raw.length):(fdG raw a).2<=raw.length:=QU (QU (dN (dN (dN h))))
def vP (q:Rat):Rat:=if q<0 then -q else q
def jX {k:Nat}{q:Rat}(h:Fits k q):Fits k (vP q):=by unfold vP;split;{exact qE h};omega
def fdB (raw:List UInt8):Nat->Nat->List (Rat×Rat)×Nat
 |0,a=>([],a)| n+1,a=>(((fdQ raw a).1,(fdQ raw a).1+vP (fdQ raw (fdQ raw a).2).1)::(fdB raw n (fdQ raw (fdQ raw a).2).2).1,(fdB raw n (fdQ raw (fdQ raw a).2).2).2)
theorem Q1 (raw:List UInt8):∀ n a,(fdB raw n a).1.length=n
 |0,_=>rfl| n+1,a=>by simp only[fdB,bK,Q1 raw n]
def AA {raw:List UInt8}:∀ {n a},a<=raw.length->(fdB raw n a).2<=raw.length
 |0,_,h=>h| n+1,a,h=>AA (n:=n) (eG (eG h))
def JK {raw:List UInt8}:∀ {n a:Nat} {x:Rat×Rat},x∈(fdB raw n a).1->Fits 3 x.1/\Fits 3 x.2
 |0,_,x,h=>absurd h (by simp[fdB])| n+1,a,x,h=>by simp only[fdB,yI] at h;rcases h with rfl|h;{exact⟨(jO raw a).mono (by decide),(uK (jO raw a) (jX (jO raw _))).mono (by decide)⟩};{exact JK h}
def FK {raw:List UInt8}:∀ {n a:Nat} {x:Rat×Rat},x∈(fdB raw n a).1->x.1<=x.2
 |0,_,x,h=>absurd h (by simp[fdB])| n+1,a,x,h=>by simp only[fdB,yI] at h;rcases h with rfl|h;{grind [vP]};{exact FK h}
structure FReg where
 bs:List (Rat×Rat)
 rows:List F
def FReg.g (x:FReg):Reg:=⟨x.bs.map λb=>zG b.1,x.bs.map λb=>zG b.2,x.rows.map fA⟩
def fdR (raw:List UInt8) (n a:Nat):FReg×Nat :=
 let b:=fdB raw n a
 let k:=fdN raw 3 b.2
 let l:=fdL raw 0 k n (na raw b.2)
 (⟨b.1,l.1⟩,l.2)
structure FReg.small (x:FReg) (n:Nat):Prop where
 bs:x.bs.length=n
 bf:∀ b,b∈x.bs->Fits 3 b.1/\Fits 3 b.2
 ord:∀ b,b∈x.bs->b.1<=b.2
 rows:x.rows.length<=2
 rf:∀ f,f∈x.rows->f.fl (1+6*n) n
def DX (raw:List UInt8)(n a:Nat):(fdR raw n a).1.small n:=by have h1:=kI (raw:=raw) (n:=3) (a:=(fdB raw n a).2) (by decide);refine⟨Q1 raw n a,λb hb=>JK hb,λb hb=>FK hb,?_,λf hf=>?_⟩;{show (fdL raw 0 _ _ _).1.length<=2;grind [aJ]};{have:=QV (f:=f) (raw:=raw) (d:=0) hf;grind}
def Aq {raw:List UInt8}{n a:Nat}(h:a<=raw.length):(fdR raw n a).2<=raw.length:=QU (dN (AA h))
structure FQry where
 g:FGrp
 r:FReg
 goal:F
def FQry.q (x:FQry):Qry:=⟨x.g.g,x.r.g,fA x.goal⟩
def fdY (raw:List UInt8) (a:Nat):FQry×Nat :=
 let g:=fdG raw a
 let r:=fdR raw g.1.n g.2
 let f:=fdF raw (g.1.n+g.1.us.length) r.2
 (⟨g.1,r.1,f.1⟩,f.2)
structure FQry.small (x:FQry):Prop where
 g:x.g.small
 r:x.r.small x.g.n
 goal:x.goal.fl 43 7
def aQ (raw:List UInt8)(a:Nat):(fdY raw a).1.small:=by have hg:=UQ raw a;refine⟨hg,DX raw _ _,?_⟩;have h1:=hg.n2;have h2:=hg.us;show (fdF raw ((fdG raw a).1.n+(fdG raw a).1.us.length) (fdR raw (fdG raw a).1.n (fdG raw a).2).2).1.fl 43 7;exact (Ax raw _ _).mono oM oM
def Nh {raw:List UInt8}{a:Nat}(h:a<=raw.length):(fdY raw a).2<=raw.length:=Q0 (Aq (Av h))
def Gh {l:List F}{k n:Nat}(hl:l.length<2^38)(h:∀ f,f∈l->f.fl k n)(hn:n<2^38):Asz k (l.map fA):=⟨by grind,λa ha=>by obtain⟨f,hf,rfl⟩:=xA.1 ha;exact ((h f hf).fit hn).fA⟩
theorem FQry.small.sz {x:FQry}(h:x.small):x.q.sz 43 where
 g:=⟨Gh (by have:=h.g.us;omega) h.g.uf (by decide),Gh (by have:=h.g.o2;omega) h.g.of (by decide)⟩
 r:=⟨⟨by show (x.r.bs.map _).length<_;rw[y8,h.r.bs];have:=h.g.n2;omega,λa ha=>by
   obtain⟨b,hb,rfl⟩:=xA.1 ha;exact zT ((h.r.bf b hb).1.mono (by decide))⟩,⟨by show (x.r.bs.map _).length<_;rw[y8,h.r.bs];have:=h.g.n2;omega,λa ha=>by
   obtain⟨b,hb,rfl⟩:=xA.1 ha;exact zT ((h.r.bf b hb).2.mono (by decide))⟩,
  Gh (by have:=h.r.rows;omega) (λf hf=>(h.r.rf f hf).mono (by have:=h.g.n2;omega) (by have:=h.g.n2;show _<=7;omega)) (by decide)⟩
 goal:=(h.goal.fit (by decide)).fA
def mL (raw:List UInt8) (q:Qry) (n m:Nat):Nat->List Dec->Nat->List Dec
 |0,p,_=>p| k+1,p,a =>
  let kd:=1+fdN raw 4 a
  let a1:=na raw a
  if kd=3\/kd=4 then mL raw q n m k (p++[⟨kd,fdN raw n a1,zG (fdQ raw (na raw a1)).1⟩]) (fdQ raw (na raw a1)).2
  else if m=0 then mL raw q n m k p a1
  else if (⟨q,p,[]⟩:Scp).dcd 1 (fdN raw m a1)=true\/(⟨q,p,[]⟩:Scp).dcd 2 (fdN raw m a1)=true then mL raw q n m k p (na raw a1)
  else mL raw q n m k (p++[⟨kd,fdN raw m a1,R0⟩]) (na raw a1)
def fdS (raw:List UInt8):Scp :=
 let y:=fdY raw 0
 ⟨y.1.q,mL raw y.1.q y.1.g.n y.1.g.us.length (fdN raw 4 y.2) [] (na raw y.2),[]⟩
structure PathOk (n m:Nat) (p:List Dec):Prop where
 d:∀ d,d∈p->(d.k=1\/d.k=2)/\0<=d.i/\d.i<m/\d.x=R0\/(d.k=3\/d.k=4)/\0<=d.i/\d.i<n/\∃ q,Fits 1 q/\d.x=zG q
def Zt {raw:List UInt8}{q:Qry}{n m:Nat}(hn:0<n):∀ {k a:Nat} {p:List Dec},PathOk n m p->PathOk n m (mL raw q n m k p a)/\(mL raw q n m k p a).length<=p.length+k
 |0,a,p,h=>⟨h,yD _⟩| k+1,a,p,h=>by
  have h4:=kI (raw:=raw) (n:=4) (a:=a) (by decide);unfold mL;dsimp only;split
  ·rename_i hk;have hi:=kI (raw:=raw) (n:=n) (a:=na raw a) hn;obtain⟨g1,g2⟩:=Zt (raw:=raw) (q:=q) (m:=m) hn (k:=k) (a:=(fdQ raw (na raw (na raw a))).2) (p:=p++[⟨((1+fdN raw 4 a:Nat):Int),fdN raw n (na raw a),zG (fdQ raw (na raw (na raw a))).1⟩]) ⟨λd hd=>by
    rcases uQ.1 hd with hd|hd;{exact h.d d hd}
    ·obtain rfl:=kC.1 hd;exact .inr ⟨by grind,by grind,by grind,_,jO raw _,rfl⟩⟩
   grind
  {rename_i hk;split;{obtain⟨g1,g2⟩:=Zt (raw:=raw) (q:=q) (m:=m) hn (k:=k) (a:=na raw a) h;grind};{rename_i hm;have hi:=kI (raw:=raw) (n:=m) (a:=na raw a) oM;split;{obtain⟨g1,g2⟩:=Zt (raw:=raw) (q:=q) (m:=m) hn (k:=k) (a:=na raw (na raw a)) h;grind};{obtain⟨g1,g2⟩:=Zt (raw:=raw) (q:=q) (m:=m) hn (k:=k) (a:=na raw (na raw a)) (p:=p++[⟨((1+fdN raw 4 a:Nat):Int),fdN raw m (na raw a),R0⟩]) ⟨λd hd=>by rcases uQ.1 hd with hd|hd;{exact h.d d hd};grind⟩;grind}}}
def JJ (raw:List UInt8):PathOk (fdY raw 0).1.g.n (fdY raw 0).1.g.us.length (fdS raw).path/\(fdS raw).path.length<=3:=by have h:=(aQ raw 0).g.n1;obtain⟨g1,g2⟩:=Zt (raw:=raw) (q:=(fdY raw 0).1.q) (m:=(fdY raw 0).1.g.us.length) (n:=(fdY raw 0).1.g.n) oM (k:=fdN raw 4 (fdY raw 0).2) (a:=na raw (fdY raw 0).2) (p:=[]) ⟨λd hd=>absurd hd (by simp)⟩;grind [fdS,fdN]
def Ni (raw:List UInt8):(fdS raw).sz 43:=by obtain⟨h1,h2⟩:=JJ raw;refine⟨(aQ raw 0).sz,⟨by omega,λd hd=>?_⟩,⟨by show 0<2^38;decide,λa ha=>absurd ha (by simp[fdS]),λa ha=>absurd ha (by simp[fdS])⟩⟩;rcases h1.d d hd with⟨_,_,_,h⟩|⟨_,_,_,q,hq,h⟩;{rw[h];exact⟨yU _,yU _⟩};{rw[h];exact zT (hq.mono (by decide))}
structure F.wf (f:F) (n:Int):Prop where
 cn:Cn f.ts
 v:∀ t,t∈f.ts->0<=t.1/\t.1<n
theorem F.wf.merge {f g:F}{c:Rat}{n:Int}(hf:f.wf n)(hg:g.wf n):(f.merge g c).wf n:=⟨hf.cn.mrg hg.cn,λt ht=>by
 rcases fY ht with⟨u,hu,e⟩|⟨u,hu,e⟩;{rw[<-e];exact hf.v u hu}
 ·rw[<-e];exact hg.v u hu⟩
theorem F.wf.num (q:Rat)(n:Int):(F.num q).wf n:=⟨Cn.nil,λt ht=>absurd ht (by simp[F.num])⟩
theorem F.wf.var {v n:Int}(h1:0<=v)(h2:v<n):(F.var v).wf n:=⟨Cn.nil.cons (by simp) (by grind),λt ht=>by grind [F.var]⟩
theorem F.wf.zero0 (n:Int):(⟨[],0⟩:F).wf n:=⟨Cn.nil,λt ht=>absurd ht (by simp)⟩
theorem F.wf.scale {f:F}{c:Rat}{n:Int}(hf:f.wf n):(f.scale c).wf n:=F.wf.merge (F.wf.zero0 n) hf
theorem F.wf.add {f g:F}{n:Int}(hf:f.wf n)(hg:g.wf n):(f.add g).wf n:=hf.merge hg
theorem F.wf.mono {f:F}{n m:Int}(hf:f.wf n)(h:n<=m):f.wf m:=⟨hf.cn,λt ht=>⟨(hf.v t ht).1,by have:=(hf.v t ht).2;omega⟩⟩
def QW (raw:List UInt8)(N:Nat):∀ (n v:Nat) (f:F) (a:Nat),v+n<=N->f.wf N->(mN raw n v f a).1.wf N
 |0,_,_,_,_,h=>h| n+1,v,f,a,hv,h=>by unfold mN;split;{exact QW raw N n _ _ _ oM (h.add (F.wf.var oM oM).scale)};{exact QW raw N n _ _ _ oM h}
theorem Aw (raw:List UInt8)(n a:Nat):(fdF raw n a).1.wf n:=QW raw n n 0 _ _ oM (F.wf.num _ _)
def QT {raw:List UInt8}{d:Nat}:∀ {n v a:Nat} {i:Nat} {f:F},(fdL raw d n v a).1[i]?=some f->f.wf ((v+i*d:Nat):Int)
 |0,_,_,i,f,h=>by grind [fdL]| n+1,v,a,0,f,h=>by simp only[fdL,mH,pE] at h;rw[<-h,ZI,VS];grind [Aw]| n+1,v,a,i+1,f,h=>by simp only[fdL,p9] at h;have:=QT h;grind
def qT (L:List Lem) (k:Nat):Rat:=((L[k-1]?).map λm=>m.v.q).getD 0
def bT (L:List Lem) (unit:Int):Nat->List Lem->Nat×Nat->Nat×Nat
 |_,[],b=>b| n,m::r,b=>bT L unit (n+1) r (if m.u=unit then (if m.up=true then (if b.2=0\/wK m.v.q (qT L b.2)<0 then (b.1,n+1) else b) else (if b.1=0\/0<wK m.v.q (qT L b.1) then (n+1,b.2) else b)) else b)
def Scp.best (s:Scp) (unit:Int):Nat×Nat:=bT s.lems unit 0 s.lems (0,0)
def Vc {L:List Lem}{unit:Int}:∀ {r:List Lem} {n:Nat} {b:Nat×Nat},r=L.drop n->(∀ k,k=b.1\/k=b.2->k≠0->∃ m,L[k-1]?=some m/\m.u=unit) ->∀ k,k=(bT L unit n r b).1\/k=(bT L unit n r b).2->k≠0->∃ m,L[k-1]?=some m/\m.u=unit
 |[],n,b,_,hb=>hb| m::r,n,b,hr,hb=>by
  have hm:L[n]?=some m:=by
   (have:(L.drop n)[0]?=some m:=by grind);grind
  have hr':r=L.drop (n+1):=by
   (have:(L.drop n).drop 1=L.drop (n+1):=by simp_all);grind
  unfold bT;refine Vc hr' λk hk hk0=>?_;split at hk;{rename_i hu;have new:∃ m,L[n+1-1]?=some m/\m.u=unit:=⟨m,hm,hu⟩;split at hk;{split at hk;{rcases hk with rfl|rfl;{simp_all};omega};{exact hb k hk hk0}};{split at hk;{rcases hk with rfl|rfl;{exact new};simp_all};{exact hb k hk hk0}}};{exact hb k hk hk0}
def kS {s:Scp}{unit:Int}{k:Nat}(hk:k=(s.best unit).1\/k=(s.best unit).2)(h0:k≠0):∃ m,s.lems[k-1]?=some m/\m.u=unit :=
 Vc (by simp) (λk hk hk0=>by omega) k hk h0
def xU (a b:List (Row×Rat)) (c:Rat):List (Row×Rat):=b.foldl (λa m=>plMq a m.1 (m.2*c)) a
def Scp.atLeastM (s:Scp) (v:Int):List (Row×Rat):=if v<s.q.g.n then [(⟨1,v,0,0⟩,1)] else [(⟨5,v-s.q.g.n,0,0⟩,1)]
def upM (j:Int) (lo hi:Nat) (l u:Rat):List (Row×Rat) :=
 if z3 u<=0 then [(⟨10,j,0,hi⟩,1)]
 else if 0<=z3 l then [(⟨8,j,lo,0⟩,1),(⟨12,j,0,hi⟩,1)]
 else [(⟨12,j,0,hi⟩,(1/(u-l))*u),(⟨13,j,lo,hi⟩,1/(u-l))]
def Scp.atMostM (s:Scp) (v:Int):Option (List (Row×Rat)) :=
 if v<s.q.g.n then some [(⟨2,v,0,0⟩,1)]
 else if (s.best (v-s.q.g.n)).1=0\/(s.best (v-s.q.g.n)).2=0 then none
 else some (upM (v-s.q.g.n) (s.best (v-s.q.g.n)).1 (s.best (v-s.q.g.n)).2 (qT s.lems (s.best (v-s.q.g.n)).1) (qT s.lems (s.best (v-s.q.g.n)).2))
def Scp.aboveL (s:Scp):List (Int×Rat)->List (Row×Rat)->Option (List (Row×Rat))
 |[],l=>some l
 |t::r,l=>match (if 0<z3 t.2 then some (s.atLeastM t.1) else s.atMostM t.1) with
  |none=>none| some more=>s.aboveL r (xU l more (vP t.2))
def Scp.above (s:Scp) (f:F):Option (Rat×List (Row×Rat)):=(s.aboveL f.ts []).map λl=>((f.sub (s.sum (mR l)).2).c,l)
def VQ (j:Int) (x y:Option (Rat×List (Row×Rat))):List Lem :=
 (match x with
 |some v=>[⟨j,false,zG v.1,mR v.2⟩]| none=>[])++(match y with
 |some w=>[⟨j,true,zG (-w.1),mR w.2⟩]| none=>[])
def Kc (q:Qry) (path:List Dec):List A->Nat->List Lem->List Lem
 |[],_,L=>L| p::r,j,L=>Kc q path r (j+1) (L++VQ j ((⟨q,path,L⟩:Scp).above p.f) ((⟨q,path,L⟩:Scp).above (p.f.scale (-1))))
def Scp.bounded (s:Scp):Scp:=⟨s.q,s.path,Kc s.q s.path s.q.g.us 0 s.lems⟩
inductive Wt (s:Scp):List (Row×Rat)->Nat->Prop
 |nil:Wt s [] 0
 |cons {r q l k g N} (hk:Fits k q) (hg:∀ f,s.fm r=some f->f.fl g 3000) (h:Wt s l N):Wt s ((r,q)::l) (k+g+5+N)
theorem Wt.to {s l N M}(h:Wt s l N)(e:N=M):Wt s l M:=e ▸ h
theorem Wt.mem {s:Scp}:∀ {l:List (Row×Rat)} {N:Nat},Wt s l N->∀ t,t∈l->Fits N t.2
 |_,_,.nil,t,ht=>absurd ht (by simp)| _,_,.cons hk hg h,t,ht=>by rcases yI.1 ht with rfl|ht;{exact hk.mono oM};{exact (h.mem t ht).mono oM}
theorem Wt.plM {s:Scp}{r:Row}{q:Rat}{k g:Nat}(hk:Fits k q)(hg:∀ f,s.fm r=some f->f.fl g 3000):∀ {l:List (Row×Rat)} {N:Nat},Wt s l N->∃ M,M<=k+g+5+N/\Wt s (plM r q l) M
 |_,_,.nil=>⟨_,yD _,.cons hk hg .nil⟩| _,_,.cons (r:=r') (q:=q') (l:=l) (k:=k') (g:=g') (N:=N') hk' hg' h=>by unfold Go.Proofs.YtaeaffgjdcigoaaGreat.plM;split;{obtain⟨M,h1,h2⟩:=Wt.plM hk hg h;exact⟨_,by omega,.cons hk' hg' h2⟩};{split;{rename_i e;have e':r'=r:=e;rw[e'] at hg';refine⟨_,?_,.cons (k:=k'+k+1) ((uK hk' hk).mono oM) hg' h⟩;omega};{exact⟨_,by omega,.cons hk hg (.cons hk' hg' h)⟩}}
theorem Wt.plMq {s:Scp}{r:Row}{q:Rat}{k g:Nat}(hk:Fits k q)(hg:∀ f,s.fm r=some f->f.fl g 3000){l:List (Row×Rat)}{N:Nat}(h:Wt s l N):∃ M,M<=k+g+5+N/\Wt s (plMq l r q) M:=by unfold Go.Proofs.YtaeaffgjdcigoaaGreat.plMq;split;{grind};{exact Wt.plM hk hg h}
theorem Wt.merge {s:Scp}{c:Rat}{kc:Nat}(hc:Fits kc c):∀ {b:List (Row×Rat)} {B:Nat} {a:List (Row×Rat)} {N:Nat},Wt s b B->Wt s a N->∃ M,M<=B+(kc+2)*b.length+N/\Wt s (xU a b c) M
 |_,_,a,N,.nil,ha=>⟨N,by simp,ha⟩| _,_,a,N,.cons (r:=r) (q:=q) (l:=l) (k:=k) (g:=g) (N:=B) hk hg h,ha=>by obtain⟨M1,h1,h2⟩:=Wt.plMq (q:=q*c) (yY hk hc) hg ha;obtain⟨M,g1,g2⟩:=Wt.merge hc h h2;refine⟨M,?_,g2⟩;rw[bK,Yl];omega
def Bq (r:Row)(q:Rat)(l):(plMq l r q).length<=l.length+1:=by grind [plMq,Qy]
def lI (c:Rat):∀ (b a:List (Row×Rat)),(xU a b c).length<=a.length+b.length
 |[],a=>yD _| t::b,a=>by have h1:=lI c b (plMq a t.1 (t.2*c));have h2:=Bq t.1 (t.2*c) a;have e:xU a (t::b) c=xU (plMq a t.1 (t.2*c)) b c:=rfl;grind
theorem Wt.sumL {s:Scp}:∀ {l:List (Row×Rat)} {N:Nat},Wt s l N->∀ {acc f:F} {a n:Nat},acc.fl a n->sumL s acc (mR l)=some f->f.fl (a+N) (n+3000*l.length)
 |_,_,.nil,acc,f,a,n,ha,h=>by cases h;exact ha
 |_,_,.cons (r:=r) (q:=q) (l:=l) (k:=k) (g:=g) (N:=B) hk hg hw,acc,f,a,n,ha,h=>by have e:mR ((r,q)::l)=⟨r,zG q⟩::mR l:=rfl;rw[e] at h;unfold Go.Proofs.YtaeaffgjdcigoaaGreat.sumL at h;dsimp only at h;split at h;{cases h};{rename_i f0 hf0;rw[zV] at h;have:=hw.sumL (ha.add ((hg f0 hf0).scale hk)) h;exact this.mono oM (by grind)}
theorem Wt.sum {s:Scp}{l:List (Row×Rat)}{N:Nat}(h:Wt s l N):(s.sum (mR l)).2.fl (1+N) (3000*l.length):=by unfold Scp.sum;split;{exact zero_fl.mono oM oM};{split;{exact zero_fl.mono oM oM};{rename_i f hf;exact (h.sumL zero_fl hf).mono oM oM}}
def LB (K:Nat->Nat) (L:List Lem):Prop:=∀ m,m∈L->∃ i:Nat,m.u=i/\Fits (K i) m.v.q
def BW {K:Nat->Nat}{s:Scp}(hK:∀ i,1<=K i)(h:LB K s.lems)(k:Int)(i:Nat)(up:Bool):Fits (K i) ((s.lem k i up).getD 0):=by
 unfold Scp.lem;split
 ·split
  ·rename_i m hm;split
   ·(rename_i e;obtain⟨i',e',hf⟩:=h m (zX hm);have:i'=i:=by omega);simp_all
   {exact vY (hK i)}
  {exact vY (hK i)}
 grind [vY]
def Xg {K:Nat->Nat}{s:Scp}(h:LB K s.lems){i k:Nat}(hk:k=(s.best i).1\/k=(s.best i).2)(h0:k≠0):Fits (K i) (qT s.lems k):=by obtain⟨m,hm,hu⟩:=kS hk h0;obtain⟨i',e',hf⟩:=h m (zX hm);grind [qT]
def P8 {s:Scp}{x:FQry}(hq:s.q=x.q)(hx:x.small){r:Row}(hr:r.k=1\/r.k=2){f:F}(h:s.fm r=some f):f.fl 6 3000:=by
 unfold Scp.fm at h;split at h;{cases h};rw[if_pos oM] at h;unfold Scp.fIn at h;split at h
 ·split at h
  ·cases hy:s.q.r.lo[r.i.toNat]? with
   |none=>grind| some y =>
    rw[hy] at h;cases h;have hm:=zX hy;rw[hq] at hm;obtain⟨b,hb,rfl⟩:=xA.1 hm;dsimp only;rw[zV];exact ((gO r.i).sub (u6 (hx.r.bf b hb).1)).mono oM oM
  ·split at h
   ·cases hy:s.q.r.hi[r.i.toNat]? with
    |none=>grind| some y =>
     rw[hy] at h;cases h;have hm:=zX hy;rw[hq] at hm;obtain⟨b,hb,rfl⟩:=xA.1 hm;dsimp only;rw[zV];exact ((u6 (hx.r.bf b hb).2).sub (gO r.i)).mono oM oM
   {omega}
 grind
def Sp {s:Scp}{r:Row}{p v:F}{l u:Option Rat}{K:Nat}{f:F}(hk:1<=K)(hp:p.fl 43 7)(hv:v.fl 1 1)(hl:Fits K (l.getD 0))(hu:Fits K (u.getD 0))(h:unF s r p v l u=some f):f.fl (4*K+60) 3000:=by
 unfold unF at h;generalize l.getD 0=lq at *;generalize u.getD 0=uq at *;have two:∀ {c:Prop} [Decidable c] {x:F},(if c then some x else none)=some f->x=f:=λh=>by grind
 split at h;{rw[<-two h];exact hv.mono oM oM};split at h;{rw[<-two h];exact (hv.sub hp).mono oM oM};split at h;{rw[<-two h];exact (hp.add zero_fl).mono oM oM};split at h;{rw[<-two h];exact (hp.sub hv).mono oM oM};split at h;{rw[<-two h];exact (hp.scale wI).mono oM oM};split at h;{rw[<-two h];exact (hv.scale wI).mono oM oM};split at h;{rw[<-two h];exact (hp.sub (u6 hl)).mono oM oM};split at h;{rw[<-two h];exact ((u6 hu).sub hp).mono oM oM};split at h;{rw[<-two h];exact (((hp.sub (u6 hl)).scale hu).sub (hv.scale (vC hu hl))).mono oM oM};grind
def P6 {s:Scp}{x:FQry}{K:Nat->Nat}(hq:s.q=x.q)(hx:x.small)(hK:∀ i,1<=K i)(hL:LB K s.lems){r:Row}{i:Nat}(hr:5<=r.k)(hi:r.i=i){f:F}(h:s.fm r=some f):f.fl (4*K i+60) 3000:=by
 unfold Scp.fm at h;split at h;{cases h};rw[if_neg oM] at h;unfold Scp.fUn at h;split at h
 ·cases hy:s.q.g.us[r.i.toNat]? with
  |none=>grind| some p =>
   rw[hy] at h;have hm:=zX hy;rw[hq] at hm;obtain⟨b,hb,rfl⟩:=xA.1 hm;rw[hi] at h;dsimp only at h;rw[qP] at h;exact Sp (hK i) (hx.g.uf b hb) (gO _) (BW hK hL _ _ _) (BW hK hL _ _ _) h
 grind
def cst (K:Nat->Nat) (n v:Nat):Nat:=if v<n then 60 else 13*K (v-n)+230
def XW {s:Scp}{r:Row}{g:Nat}(hg:∀ f,s.fm r=some f->f.fl g 3000):Wt s [(r,1)] (g+6):=(Wt.cons fits_one hg .nil).to oM
def BX {s:Scp}{x:FQry}{K:Nat->Nat}(hq:s.q=x.q)(hx:x.small)(hK:∀ i,1<=K i)(hL:LB K s.lems)(v:Nat):∃ B,B+48*(s.atLeastM v).length<=cst K x.g.n v/\Wt s (s.atLeastM v) B:=by
 have hn:s.q.g.n=(x.g.n:Int):=by rw[hq];rfl
 unfold Scp.atLeastM cst;rw[hn];by_cases h:v<x.g.n;{rw[if_pos oM,if_pos h];exact⟨_,by simp,XW λf hf=>P8 hq hx (.inl rfl) hf⟩};{rw[if_neg oM,if_neg h];exact⟨_,by grind,XW λf hf=>P6 (i:=v-x.g.n) hq hx hK hL (by grind) (by grind) hf⟩}
def NM {s:Scp}{x:FQry}{K:Nat->Nat}(hq:s.q=x.q)(hx:x.small)(hK:∀ i,1<=K i)(hL:LB K s.lems){i lo hi:Nat}{l u:Rat}(hl:Fits (K i) l)(hu:Fits (K i) u):∃ B,B+48*(upM i lo hi l u).length<=13*K i+230/\Wt s (upM i lo hi l u) B:=by
 have hg:∀ (k lo hi:Int),5<=k->∀ f,s.fm ⟨k,i,lo,hi⟩=some f->f.fl (4*K i+60) 3000:=λk lo hi hk f hf=>P6 hq hx hK hL hk rfl hf;have h1:=hK i;have hs:=bD (vC hu hl);have hd:Fits (2*K i+1) (1/(u-l)):=by grind
 unfold upM;split;{exact⟨_,by grind,XW (hg _ _ _ (by decide))⟩};{split;{exact⟨_,by grind,Wt.cons fits_one (hg _ _ _ (by decide)) (XW (hg _ _ _ (by decide)))⟩};{exact⟨_,by grind,Wt.cons ((yY hd hu).mono (k:=_) (m:=3*K i+2) oM) (hg _ _ _ (by decide)) (Wt.cons hd (hg _ _ _ (by decide)) .nil)⟩}}
theorem Fl {s:Scp}{x:FQry}{K:Nat->Nat}(hq:s.q=x.q)(hx:x.small)(hK:∀ i,1<=K i)(hL:LB K s.lems)(v:Nat){more:List (Row×Rat)}(h:s.atMostM v=some more):∃ B,B+48*more.length<=cst K x.g.n v/\Wt s more B:=by
 have hn:s.q.g.n=(x.g.n:Int):=by rw[hq];rfl
 unfold Scp.atMostM at h;unfold cst;rw[hn] at h;by_cases hv:v<x.g.n;{rw[if_pos oM] at h;rw[if_pos hv];cases h;exact⟨_,by simp,XW λf hf=>P8 hq hx (.inr rfl) hf⟩}
 ·(rw[if_neg oM] at h;rw[if_neg hv];have e:(v:Int)-x.g.n=((v-x.g.n:Nat):Int):=by omega);rw[e] at h
  split at h;{cases h};{rename_i hb;cases h;exact NM hq hx hK hL (Xg hL (.inl rfl) (λg=>hb (.inl g))) (Xg hL (.inr rfl) (λg=>hb (.inr g)))}
def pD (K:Nat->Nat) (n:Nat):Nat->Nat
 |0=>0| v+1=>pD K n v+cst K n v
def Yd {K:Nat->Nat}{n a b:Nat}(h:a<=b):pD K n a<=pD K n b:=by
 induction b with
 |zero=>grind| succ b ih =>
  by_cases e:a=b+1;{grind};grind [pD]
def Ym {s:Scp}{x:FQry}{K:Nat->Nat}(hq:s.q=x.q)(hx:x.small)(hK:∀ i,1<=K i)(hL:LB K s.lems){hi:Nat}:∀ {ts:List (Int×Rat)} {l l':List (Row×Rat)} {N lo:Nat},Cn ts->(∀ t,t∈ts->(lo:Int)<=t.1/\t.1<hi)->(∀ t,t∈ts->Fits 46 t.2)->lo<=hi->Wt s l N->s.aboveL ts l=some l'->∃ M,M+pD K x.g.n lo<=N+pD K x.g.n hi/\Wt s l' M
 |[],l,l',N,lo,_,_,_,hlh,hw,h=>by cases h;exact⟨N,by have:=Yd (K:=K) (n:=x.g.n) hlh;omega,hw⟩
 |t::r,l,l',N,lo,hc,hv,hf,hlh,hw,h=>by
  (obtain⟨h1,h2⟩:=hv t xV;obtain⟨v,hv1⟩:∃ v:Nat,t.1=v:=⟨t.1.toNat,by omega⟩;unfold Scp.aboveL at h;have hm:∀ {more:List (Row×Rat)},(if 0<z3 t.2 then some (s.atLeastM t.1) else s.atMostM t.1)=some more->∃ B,B+48*more.length<=cst K x.g.n v/\Wt s more B:=λ{more} g=>by rw[hv1] at g;split at g;{cases g;exact BX hq hx hK hL v};grind [Fl]);split at h;{cases h}
  ·(rename_i more hmore;obtain⟨B,b1,b2⟩:=hm hmore;obtain⟨M1,m1,m2⟩:=Wt.merge (jX (hf t xV)) b2 hw;have hlo:∀ u,u∈r->((v+1:Nat):Int)<=u.1/\u.1<hi:=λu hu=>by have g1:=hc.lt u hu;grind);obtain⟨M,k1,k2⟩:=Ym hq hx hK hL (hi:=hi) (lo:=v+1) hc.tail hlo (λu hu=>hf u (xQ _ hu)) oM m2 h;refine⟨M,?_,k2⟩;have c1:=Yd (K:=K) (n:=x.g.n) (a:=lo) (b:=v) oM;have c2:pD K x.g.n (v+1)=pD K x.g.n v+cst K x.g.n v:=rfl;omega
theorem So (j:Int)(lo hi:Nat)(l u:Rat):(upM j lo hi l u).length<=2:=by grind [upM]
theorem Jb {s:Scp}{v:Int}{more}(h:s.atMostM v=some more):more.length<=2:=by grind [Scp.atMostM,So]
def DL (s:Scp)(v:Int):(s.atLeastM v).length<=2:=by grind [Scp.atLeastM]
def eY {s:Scp}:∀ {ts:List (Int×Rat)} {l l':List (Row×Rat)},s.aboveL ts l=some l'->l'.length<=l.length+2*ts.length
 |[],l,l',h=>by cases h;simp
 |t::r,l,l',h=>by
  unfold Scp.aboveL at h;split at h;{cases h}
  ·(rename_i more hmore;have h1:more.length<=2:=by split at hmore;{cases hmore;exact DL _ _};grind [Jb]);have h2:=lI (vP t.2) more l;have h3:=eY h;grind
def Hh {s:Scp}{x:FQry}{K:Nat->Nat}(hq:s.q=x.q)(hx:x.small)(hK:∀ i,1<=K i)(hL:LB K s.lems){f:F}{hi:Nat}(hf:f.fl 46 7)(hw:f.wf hi){v:Rat×List (Row×Rat)}(h:s.above f=some v):Fits (49+pD K x.g.n hi) v.1/\(∀ t,t∈v.2->Fits (pD K x.g.n hi) t.2)/\v.2.length<=14:=by
 unfold Scp.above at h;cases hl:s.aboveL f.ts [] with
 |none=>grind| some l =>
  rw[hl] at h;cases h;obtain⟨M,h1,h2⟩:=Ym hq hx hK hL (hi:=hi) (lo:=0) hw.cn (λt ht=>by have:=hw.v t ht;omega) hf.t (yU _) .nil hl;have h3:pD K x.g.n 0=0:=rfl;have h4:=eY hl;have h5:=hf.len;refine⟨((hf.sub h2.sum).c).mono oM,λt ht=>(h2.mem t ht).mono oM,?_⟩;grind
def KK:Nat->Nat
 |0=>230| 1=>3450| 2=>48530| _=>679650
def GA (i:Nat):1<=KK i:=by unfold KK;grind
def Te {n j:Nat}(h1:1<=n)(h2:n<=3)(h3:j<=3):49+pD KK n (n+j)<=KK j:=by
 have:∀ n:Fin 4,∀ j:Fin 4,1<=n.val->49+pD KK n.val (n.val+j.val)<=KK j.val:=by decide +kernel
 exact this ⟨n,by omega⟩ ⟨j,by omega⟩ h1
def Sj (i:Nat):KK i<=679650:=by unfold KK;grind
structure Lok (L:List Lem) (j:Nat):Prop where
 lb:LB KK L
 len:L.length<=2*j
 pf:∀ m,m∈L->Msz 679650 m.pf/\m.pf.length<=14
 v:∀ m,m∈L->∃ q,m.v=zG q
def MT {l:List (Row×Rat)}{k:Nat}(h:∀ t,t∈l->Fits k t.2)(hl:l.length<=14):Msz k (mR l):=⟨by grind [jJ],λm hm=>by obtain⟨t,ht,rfl⟩:=xA.1 hm;grind [zT]⟩
def AZ {x:FQry}(hx:x.small)(hwf:∀ (i:Nat) (f:F),x.g.us[i]?=some f->f.wf ((x.g.n+i:Nat):Int)){path:List Dec}{j:Nat}{f:F}(hfj:x.g.us[j]?=some f){L:List Lem}(h:Lok L j):Lok (L++VQ j ((⟨x.q,path,L⟩:Scp).above f) ((⟨x.q,path,L⟩:Scp).above (f.scale (-1)))) (j+1)/\(∀ v,(⟨x.q,path,L⟩:Scp).above (f.scale (-1))=some v->Fits (2^20) v.1):=by
 obtain⟨hlen,he⟩:=xP.1 hfj;have hj:j<=3:=by have:=hx.g.us;omega
 have hf:=hx.g.uf _ (zX hfj);have hw:=hwf j f hfj;have ok:=Te hx.g.n1 hx.g.n2 hj;have kl:=Sj j;have key:∀ {f:F} {v:Rat×List (Row×Rat)},f.fl 46 7->f.wf ((x.g.n+j:Nat):Int)->(⟨x.q,path,L⟩:Scp).above f=some v->Fits (KK j) v.1/\Msz 679650 (mR v.2)/\(mR v.2).length<=14:=λhf hw hv=>by obtain⟨g1,g2,g3⟩:=Hh (s:=⟨x.q,path,L⟩) rfl hx GA h.lb hf hw hv;exact⟨g1.mono ok,MT (λt ht=>(g2 t ht).mono oM) g3,by grind [jJ]⟩
 have kx:=λv hv=>key (v:=v) (hf.mono (by decide) (by decide)) hw hv;have ky:=λv hv=>key (v:=v) ((hf.scale wI).mono (by decide) (by decide)) hw.scale hv;refine⟨?_,λv hv=>(ky v hv).1.mono (vR kl (by decide))⟩;generalize (⟨x.q,path,L⟩:Scp).above f=X at *;generalize (⟨x.q,path,L⟩:Scp).above (f.scale (-1))=Y at *;have mem:∀ m,m∈VQ j X Y->m.u=(j:Int)/\Fits (KK j) m.v.q/\Msz 679650 m.pf/\m.pf.length<=14/\∃ q,m.v=zG q:=λm hm=>by
  unfold VQ at hm;rcases uQ.1 hm with hm|hm
  ·cases X with
   |none=>grind| some v =>
    (have:m=⟨j,false,zG v.1,mR v.2⟩:=by grind);obtain⟨g1,g2,g3⟩:=kx v rfl
    rw[this];exact⟨rfl,by grind [zV],g2,g3,_,rfl⟩
  ·cases Y with
   |none=>grind| some v =>
    (have:m=⟨j,true,zG (-v.1),mR v.2⟩:=by grind);obtain⟨g1,g2,g3⟩:=ky v rfl
    rw[this];exact⟨rfl,by show Fits _ (zG (-v.1)).q;rw[zV];exact qE g1,g2,g3,_,rfl⟩
 refine⟨λm hm=>?_,?_,λm hm=>?_,λm hm=>?_⟩;{rcases uQ.1 hm with hm|hm;{exact h.lb m hm};grind}
 ·(rw[bU];have:(VQ j X Y).length<=2:=by unfold VQ;grind);have:=h.len
  omega
 {rcases uQ.1 hm with hm|hm;{exact h.pf m hm};grind};{rcases uQ.1 hm with hm|hm;{exact h.v m hm};grind}
def Au (raw:List UInt8)(a:Nat)(i:Nat)(f:F)(h:(fdG raw a).1.us[i]?=some f):f.wf (((fdG raw a).1.n+i:Nat):Int):=by have:=QT (raw:=raw) (d:=1) h;rw[t8] at this;exact this
def PH {N:Int}:∀ {ts:List (Int×Rat)} {p:Int},Cn ts->(∀ t,t∈ts->p<t.1/\0<=t.1/\t.1<N)->vT N p (tR ts)=true
 |[],_,_,_=>rfl| t::r,p,hc,h=>by obtain⟨h1,h2,h3⟩:=h t xV;have ih:=PH (N:=N) (p:=t.1) hc.tail (λu hu=>⟨hc.lt u hu,(h u (xQ _ hu)).2⟩);show (decide (0<=t.1)&&decide (t.1<N)&&decide (p<t.1)&&decide ((zG t.2).q≠0)&&(zG t.2).ok&&vT N t.1 (tR r))=true;rw[ih,zV,lE,decide_eq_true h1,decide_eq_true h2,decide_eq_true h3,decide_eq_true hc.hd];rfl
theorem F.wf.valid {f:F}{n:Int}(h:f.wf n):(fA f).valid n=true:=by have h1:=PH (N:=n) (p:=-1) h.cn (λt ht=>⟨by have:=(h.v t ht).1;omega,(h.v t ht).1,(h.v t ht).2⟩);show (vT n (-1) (tR f.ts)&&(zG f.c).ok)=true;grind [lE]
def PF:∀ {l:List F} {k:Int},(∀ (i:Nat) (f:F),l[i]?=some f->f.wf (k+i))->vU k (l.map fA)=true
 |[],_,_=>rfl| f::r,k,h=>by have h0:=h 0 f rfl;rw[show k+((0:Nat):Int)=k by omega] at h0;have ih:=PF (l:=r) (k:=k+1) (λi g hg=>by have:=h (i+1) g (by grind);grind);show ((fA f).valid k&&vU (k+1) (r.map fA))=true;rw[h0.valid,ih];rfl
def A9 {l:List F}{n:Int}(h:∀ f,f∈l->f.wf n):(l.map fA).all (A.valid n)=true:=by rw[gG];intro a ha;obtain⟨f,hf,rfl⟩:=xA.1 ha;exact (h f hf).valid
def PI:∀ {l:List (Rat×Rat)},(∀ b,b∈l->b.1<=b.2)->vB (l.map λb=>zG b.1) (l.map λb=>zG b.2)=true
 |[],_=>rfl| b::r,h=>by have ih:=PI (l:=r) (λc hc=>h c (xQ _ hc));grind [wK,vB,lE,zV]
def rK {α:Type}{l:List α}{a:α}(h:a∈l):∃ i:Nat,l[i]?=some a:=List.mem_iff_getElem?.1 h
structure FQry.ok (x:FQry):Prop where
 us:∀ (i:Nat) (f:F),x.g.us[i]?=some f->f.wf ((x.g.n+i:Nat):Int)
 os:∀ f,f∈x.g.os->f.wf ((x.g.n+x.g.us.length:Nat):Int)
 rows:∀ f,f∈x.r.rows->f.wf (x.g.n:Int)
 goal:x.goal.wf ((x.g.n+x.g.us.length:Nat):Int)
def Ap (raw:List UInt8)(a:Nat):(fdY raw a).1.ok where
 us:=Au raw a
 os:=λf hf=>by obtain⟨i,hi⟩:=rK hf;have:=QT (raw:=raw) (d:=0) hi;rw[Nat.mul_zero,VS] at this;have e:(fdY raw a).1.g.us.length=fdN raw 5 (na raw a):=aJ raw 1 _ _ _;rw[e];exact this
 rows:=λf hf=>by obtain⟨i,hi⟩:=rK hf;have:=QT (raw:=raw) (d:=0) hi;rw[Nat.mul_zero,VS] at this;exact this
 goal:=Aw raw _ _
theorem FQry.small.valid {x:FQry}(h:x.small)(g:x.ok):x.q.valid=true:=by
 have h1:=h.g.n1;have h2:=h.g.n2;have h3:=h.g.us;have h4:=h.g.o1;have h5:=h.g.o2;have h6:=h.r.bs;have h7:=h.r.rows;have hv:x.g.g.vars=((x.g.n+x.g.us.length:Nat):Int):=by show (x.g.n:Int)+((x.g.us.map fA).length:Int)=_;grind
 have hn:x.g.g.n=(x.g.n:Int):=rfl;have hg:x.g.g.valid=true:=by unfold Grp.valid;rw[hv];have a1:vU x.g.g.n x.g.g.us=true:=PF (l:=x.g.us) (k:=(x.g.n:Int)) (λi f hf=>by have:=g.us i f hf;grind);have a2:x.g.g.os.all (A.valid ((x.g.n+x.g.us.length:Nat):Int))=true:=A9 g.os;rw[a1,a2,decide_eq_true ⟨by omega,by omega,by show (x.g.us.map fA).length<=_;grind,by show 1<=(x.g.os.map fA).length;grind,by show (x.g.os.map fA).length<=_;grind⟩];rfl
 have hr:x.r.g.valid (x.g.n:Int)=true:=by unfold Reg.valid;have a1:vB x.r.g.lo x.r.g.hi=true:=PI h.r.ord;have a2:x.r.g.rows.all (A.valid (x.g.n:Int))=true:=A9 g.rows;rw[a1,a2,decide_eq_true ⟨by omega,by omega,by show ((x.r.bs.map _).length:Int)=_;grind,by show ((x.r.bs.map _).length:Int)=_;grind,by show (x.r.rows.map fA).length<=_;grind⟩];rfl
 have hgo:(fA x.goal).valid x.g.g.vars=true:=by rw[hv];exact g.goal.valid
 show (x.g.g.valid&&x.r.g.valid x.g.g.n&&(fA x.goal).valid x.g.g.vars)=true;grind
def fmD (s:Scp) (r:Row):F:=(s.fm r).getD F.zero
def SC (s:Scp) (v:Int):List (Row×Rat)->Rat
 |[]=>0| t::r=>t.2*co (fmD s t.1).ts v+SC s v r
def SK (s:Scp):List (Row×Rat)->Rat
 |[]=>0| t::r=>t.2*(fmD s t.1).c+SK s r
def AV (s:Scp) (l:List (Row×Rat)):Prop:=∀ t,t∈l->∃ f,s.fm t.1=some f
theorem Sh (s:Scp)(v:Int)(r:Row)(q:Rat):∀ l,SC s v (plM r q l)=q*co (fmD s r).ts v+SC s v l
 |[]=>rfl| t::l=>by unfold plM;split;{simp only[SC,Sh s v r q l];grind};{split;{grind [SC]};{simp only[SC]}}
theorem Sg (s:Scp)(r:Row)(q:Rat):∀ l,SK s (plM r q l)=q*(fmD s r).c+SK s l
 |[]=>rfl| t::l=>by unfold plM;split;{simp only[SK,Sg s r q l];grind};{split;{grind [SK]};{simp only[SK]}}
theorem CI {q:Rat}(h:z3 q=0):q=0:=V9.1 h
def PC (s:Scp)(v:Int)(r:Row)(q:Rat)(l):SC s v (plMq l r q)=q*co (fmD s r).ts v+SC s v l:=by grind [plMq,CI,Sh]
def PB (s:Scp)(r:Row)(q:Rat)(l):SK s (plMq l r q)=q*(fmD s r).c+SK s l:=by grind [plMq,CI,Sg]
def Sl {s:Scp}{r:Row}{q:Rat}(hr:∃ f,s.fm r=some f):∀ {l},AV s l->AV s (plM r q l)
 |[],_=>λt ht=>by grind [plM]| u::l,h=>by have hl:AV s l:=λt ht=>h t (xQ _ ht);unfold plM;split;{intro t ht;rcases yI.1 ht with rfl|ht;{exact h _ xV};{exact Sl hr hl t ht}};{split;{intro t ht;rcases yI.1 ht with rfl|ht;{exact hr};{exact hl t ht}};{intro t ht;rcases yI.1 ht with rfl|ht;{exact hr};{exact h t ht}}}
def PE {s:Scp}{r:Row}{q:Rat}(hr:∃ f,s.fm r=some f){l}(h:AV s l):AV s (plMq l r q):=by unfold plMq;split;{exact h};{exact Sl hr h}
theorem Hl (s:Scp)(v:Int)(c:Rat):∀ b a,SC s v (xU a b c)=SC s v a+c*SC s v b
 |[],a=>by show SC s v a=_;grind [SC]| t::b,a=>by show SC s v (xU (plMq a t.1 (t.2*c)) b c)=_;rw[Hl s v c b,PC];grind [SC]
theorem Hk (s:Scp)(c:Rat):∀ b a,SK s (xU a b c)=SK s a+c*SK s b
 |[],a=>by show SK s a=_;grind [SK]| t::b,a=>by show SK s (xU (plMq a t.1 (t.2*c)) b c)=_;rw[Hk s c b,PB];grind [SK]
def Hn {s:Scp}{c:Rat}:∀ {b a},AV s b->AV s a->AV s (xU a b c)
 |[],a,_,h=>h| t::b,a,hb,h=>Hn (b:=b) (λu hu=>hb u (xQ _ hu)) (PE (hb t xV) h)
def VA {c:Rat}(hc:0<=c):∀ {b a},(∀ t,t∈b->0<=t.2)->Rs a->Rs (xU a b c)
 |[],a,_,h=>h| t::b,a,hb,h=>VA hc (b:=b) (λu hu=>hb u (xQ _ hu)) (RZ h (Kn (hb t xV) hc))
theorem bG (f:F)(c:Rat)(v:Int):co (f.scale c).ts v=co f.ts v*c:=by show co (mrg c [] f.ts) v=_;grind [sY,co]
theorem WX (f g:F)(v:Int):co (f.add g).ts v=co f.ts v+co g.ts v:=by show co (mrg 1 f.ts g.ts) v=_;grind [sY]
theorem Q6 (f g:F)(v:Int):co (f.sub g).ts v=co f.ts v-co g.ts v:=by show co (mrg (-1) f.ts g.ts) v=_;grind [sY]
def GK {s:Scp}:∀ {l:List (Row×Rat)} {acc:F},AV s l->∃ f,sumL s acc (mR l)=some f/\(∀ v,co f.ts v=co acc.ts v+SC s v l)/\f.c=acc.c+SK s l/\(Cn acc.ts->(∀ r g,s.fm r=some g->Cn g.ts)->Cn f.ts)
 |[],acc,_=>⟨acc,rfl,λv=>by grind [SC],by grind [SK],λh _=>h⟩| t::l,acc,h=>by
  (obtain⟨g,hg⟩:=h t xV;obtain⟨f,h1,h2,h3,h4⟩:=GK (s:=s) (l:=l) (acc:=acc.add (g.scale t.2)) (λu hu=>h u (xQ _ hu));have hd:fmD s t.1=g:=by grind [fmD]);refine⟨f,?_,λv=>?_,?_,λhc hcn=>h4 (hc.mrg (Cn.mrg Cn.nil (hcn _ _ hg))) hcn⟩
  {have e:mR (t::l)=⟨t.1,zG t.2⟩::mR l:=rfl;grind [sumL,zV]};{grind [WX,bG,SC]};{have e:(acc.add (g.scale t.2)).c=acc.c+(0+g.c*t.2)*1:=rfl;grind [SK]}
def TZ {s:Scp}{l:List (Row×Rat)}(hr:Rs l)(ha:AV s l):∃ f,s.sum (mR l)=(0,f)/\(∀ v,co f.ts v=SC s v l)/\f.c=SK s l/\((∀ r g,s.fm r=some g->Cn g.ts)->Cn f.ts):=by obtain⟨f,h1,h2,h3,h4⟩:=GK (acc:=F.zero) ha;refine⟨f,?_,λv=>?_,?_,λh=>h4 Cn.nil h⟩;{grind [Scp.sum,Ka]};{rw[h2];have:co F.zero.ts v=0:=rfl;grind};{rw[h3];have:F.zero.c=0:=rfl;grind}
end Go.Proofs.YtaeaffgjdcigoaaGreat
