/- A part of the proof: PmC. -/
import Derived.Test.YtgcpehdkdnkgeaaGreatV03
set_option linter.all false
namespace Go.Proofs.YtgcpehdkdnkgeaaGreat
open Go
structure CallS (f:FuncId) (args:List PV) (K:PV→Prop):Prop where
 h:∃ args' r,LeL args args'∧zE f args' r∧nmIn [] r=true∧K r
structure EqS (op:BinOp) (t:TypeId) (x y:Operand) (a b:List (Unit→Int)) (K:PV→Prop):Prop where
 h:∃ r:Bool,(∀ w:World,(do eqGuard op t x y (.agg ((tZ a).map (Value.int .i64)).toArray) (.agg ((tZ b).map (Value.int .i64)).toArray);binOp op t (.agg ((tZ a).map (Value.int .i64)).toArray) (.agg ((tZ b).map (Value.int .i64)).toArray):Sem Value).run Pg w=.ok (.bool r) w)∧K (.bool (fun _=>r))
structure NilCmp (els:Unit→List (List D)) (K:PV→Prop):Prop where
 h:∀ b:Bool,(b=true→els ()=[])→K (.bool (fun _=>b))
structure StrRoom (a b:Unit→ByteArray):Prop where
 h:(a ()).size+(b ()).size≤9223372036854775807
def strK (op:BinOp) (a b:Unit→ByteArray) (K:PV→Prop):Prop :=
 match op with
 | .add=>StrRoom a b∧K (.str (fun _=>a ()++b ()))
 | .eql=>K (.bool (fun _=>(a ()).toList == (b ()).toList))
 | .neq=>K (.nbool (fun _=>(a ()).toList == (b ()).toList))
 | _=>False
def iC (ns:List Int):ByteArray:=ns.foldl (fun r n=>r.push (UInt8.ofNat n.toNat)) ByteArray.empty
structure ToStr (src dst:TypeId) (els:Unit→List (List D)) (K:PV→Prop):Prop where
 h:(∃ e,Pg.underlying src=some (.slice e)∧Pg.underlying e=some (.int .u8))∧Pg.underlying dst=some .string∧∃ ns:List Int,els ()=ns.map (fun n=>[D.int .u8 n])∧K (.str (fun _=>iC ns))
def binK (op:BinOp) (t:TypeId) (ox oy:Operand) (x y:PV) (K:PV→Prop):Prop :=
 match x,y with
 | .int k a,.int k' b=>intK op k a k' b K
 | .str a,.str b=>strK op a b K
 | .agg l,.agg m=>match m7 l,m7 m with
  | some a,some b=>EqS op t ox oy a b K
  | _,_=>False
 | x,y=>match ty t with
  | .sc .ff=>match op,bval x,bval y with
   | .eql,some a,some b=>K (.bool (fun _=>decide (a ()=b ())))
   | .neq,some a,some b=>K (.nbool (fun _=>decide (a ()=b ())))
   | _,_,_=>False
  | _=>False
structure AtOk (k:Unit→Int) (len:Nat) (K:Nat→Prop):Prop where
 h:∃ j:Nat,k ()=(j:Int)∧j<len∧K j
structure FrOk (i len:Unit→Nat) (els:Unit→List (List D)):Prop where
 h:i ()+len ()≤(els ()).length
def fo0 (n:Nat) (o:Obj'):PV→Prop
 | .osl m s i len=>(match nqb m n with
  | true=>(match o8 o with
   | some (_,els)=>FrOk i len els
   | none=>True)
  | false=>True)
 | _=>True
def allP (f:PV→Prop):List PV→Prop
 | []=>True
 | v::r=>f v∧allP f r
def fo1 (n:Nat) (o:Obj'):PV→Prop
 | .agg cs=>allP (fo0 n o) cs
 | .tup cs=>allP (fo0 n o) cs
 | .fn _ cs=>allP (fo0 n o) cs
 | v=>fo0 n o v
def fo (n:Nat) (o:Obj'):PV→Prop
 | .agg cs=>allP (fo1 n o) cs
 | .tup cs=>allP (fo1 n o) cs
 | .fn _ cs=>allP (fo1 n o) cs
 | v=>fo0 n o v
def anyL (f:PV→Bool):List PV→Bool
 | []=>false
 | v::r=>(match f v with | true=>true | false=>anyL f r)
def lnt0 (objs:List (Nat × Obj')):PV→Bool
 | .osl m _ _ _=>(match yG objs m with
  | some (.lent _ _)=>true
  | _=>false)
 | _=>false
def lnt (objs:List (Nat × Obj')):PV→Bool
 | .agg cs=>anyL (lnt0 objs) cs
 | v=>lnt0 objs v
structure LdK (objs:List (Nat × Obj')) (v:PV) (K:PV→Prop):Prop where
 h:K v∨∃ n s els,yG objs n=some (.lent s els)∧fo n (.lent s els) v∧K (frz n (.lent s els) v)
def ldV (objs:List (Nat × Obj')) (v:PV) (K:PV→Prop):Prop :=
 match lnt objs v with
 | true=>LdK objs v K
 | false=>K v
def sop (objs:List (Nat × Obj')) (op:Op) (e:Operand→PV) (K:PV→Prop):Prop :=
 match op with
 | .move x=>K (e x)
 | .assign x=>K (e x)
 | .pick c a b=>brV (e c) (fun _=>K (e a)) (fun _=>K (e b))
 | .build t parts=>match ty t with
  | .st _ fs z=>match zET fs (kX e parts.toList) z with
   | some cs=>K (.agg cs)
   | none=>False
  | .arr _ n _ z=>match zEV n (kX e parts.toList) z with
   | some cs=>K (.agg cs)
   | none=>False
  | _=>False
 | .buildSlice t len parts=>match ty t with
  | .sli n _ z=>match zEU n (kX e parts.toList) (lG z len) with
   | some els=>(match nle (len * n) 1000 && t7 els with | true=>K (slOf els) | false=>False)
   | none=>False
  | _=>False
 | .load t a=>match e a with
  | .dptr cs off=>rdK (ty t) cs off K
  | .ptr n off=>match yG objs n with
   | some (.box cs)=>rdK (ty t) cs off (fun v=>ldV objs v K)
   | _=>False
  | .aptr n s i off=>match yG objs n with
   | some (.arr s' els)=>(match nqb s s' with | true=>ElOk s els i (fun c=>rdK (ty t) c off K) | false=>False)
   | _=>False
  | _=>False
 | .binOp op t x y _=>binK op t x y (e x) (e y) K
 | .unOp op _ x=>match op,e x with
  | .not,.tt=>K .ff
  | .not,.ff=>K .tt
  | .not,.bool b=>K (.nbool b)
  | .not,.nbool b=>K (.bool b)
  | .neg,.int k n=>arK k (fun _=>0 - n ()) K
  | _,_=>False
 | .convert src dst x=>(match (ty src).isNo with
  | true=>False
  | false=>(match ty dst,e x with
   | .sc (.int k _),.int _ n=>K (.int k (fun _=>nx k (n ())))
   | .no,.sl els=>ToStr src dst els K
   | _,_=>False))
 | .fieldAddr t x i=>match ty t with
  | .st _ fs _=>match fs[i]? with
   | some (off,_,_)=>match e x with
    | .ptr n o=>K (.ptr n (o+off))
    | .aptr n s j o=>K (.aptr n s j (o+off))
    | .dptr cs o=>K (.dptr cs (o+off))
    | _=>False
   | none=>False
  | _=>False
 | .field t x i=>match ty t with
  | .st _ fs _=>match fs[i]? with
   | some (off,sz,ag)=>match ag with
    | true=>match e x with
     | .agg cs=>(match nle (off+sz) cs.length with | true=>K (.agg ((cs.drop off).take sz)) | false=>False)
     | _=>False
    | false=>False
   | none=>False
  | _=>False
 | .indexAddr t x i=>match ty t,e x,e i with
  | .sli n _ _,.sl els,.int _ k=>IdxOk n els k (fun c=>K (.dptr c 0))
  | .sli n _ _,.osl m s o len,.int _ k=>(match nqb n s with | true=>Rng k len∧K (.aptr m s (fun _=>o ()+(k ()).toNat) 0) | false=>False)
  | .arr len n _ _,.ptr m o,.int _ k=>AtOk k len (fun j=>K (.ptr m (o+j * n)))
  | _,_,_=>False
 | .index t x i=>match ty t,e x,e i with
  | .arr len 1 false _,.agg cs,.int _ k=>(match nqb len cs.length with | true=>AtOk k len (fun j=>K (cs.getD j .any)) | false=>False)
  | _,_,_=>False
 | .extract x i=>match e x with
  | .tup vs=>(match nlt i vs.length with | true=>K (vs.getD i .any) | false=>False)
  | _=>False
 | .slice t x lo hi none=>match ty t,e x with
  | .sli n _ _,.sl els=>match r9 e (fun _=>0) lo,r9 e (fun _=>((els ()).length:Nat)) hi with
   | some l,some h=>SlOk l h (fun _=>(els ()).length)∧Wid n els∧K (.sl (fun _=>((els ()).take (h ()).toNat).drop (l ()).toNat))
   | _,_=>False
  | .sli n _ _,.osl m s o len=>match r9 e (fun _=>0) lo,r9 e (fun _=>(len ():Nat)) hi with
   | some l,some h=>(match nqb n s with | true=>SlOk l h len∧SlNe l h∧K (.osl m s (fun _=>o ()+(l ()).toNat) (fun _=>(h ()).toNat - (l ()).toNat)) | false=>False)
   | _,_=>False
  | .sli _ _ _,.nil=>match r9 e (fun _=>0) lo,r9 e (fun _=>0) hi with
   | some l,some h=>SlOk l h (fun _=>0)∧K .nil
   | _,_=>False
  | _,_=>False
 | .nilCheck x=>match e x with
  | .ptr n o=>K (.ptr n o)
  | .aptr n s i o=>K (.aptr n s i o)
  | .dptr c o=>K (.dptr c o)
  | _=>False
 | .makeFunc (.func f) first caps=>match first.toList with
  | []=>K (.fn f (evs e caps.toList))
  | _=>False
 | .call c=>match c.callee with
  | .builtin .len=>match c.args.toList,c.argTypes.toList with
   | [x],[t]=>lenK (ty t) (e x) K
   | _,_=>False
  | .builtin .max=>match c.args.toList with
   | [x,y]=>match e x,e y with
    | .int .i64 a,.int .i64 b=>K (.int .i64 (fun _=>imax (a ()) (b ())))
    | _,_=>False
   | _=>False
  | .value f=>match e f with
   | .fn g caps=>CallS g (evs e c.args.toList++caps) K
   | _=>False
  | _=>False
 | _=>False
def tT:Ty→Bool
 | .sli _ _ _=>true
 | _=>false
def appN (n b:Nat) (x:PV) (K:PV→Prop):Prop :=
 match x with
 | .sl xs=>Wid n xs∧Room (fun _=>((xs ()).length:Nat)) b∧K (.sl xs)
 | .nil=>K .nil
 | _=>False
def tU (op:Op):Bool :=
 match op with
 | .call c=>(match c.callee with
  | .builtin .append=>true
  | _=>false)
 | _=>false
def app2 (op:Op) (e:Operand→PV) (K:PV→Prop):Prop :=
 match op with
 | .call c=>(match c.args.toList,c.argTypes.toList with
  | [b,x],[t,tx]=>(match tT (ty tx) with
   | true=>(match ty t,e b with
    | .sli n bb _,.nil=>appN n bb (e x) K
    | _,_=>False)
   | false=>False)
  | _,_=>False)
 | _=>False
def qN (objs:List (Nat × Obj')) (op:Op) (e:Operand→PV) (K:PV→Prop):Prop :=
 match tU op with
 | true=>app2 op e K
 | false=>sop objs op e K
def gdV (want:Bool) (v:PV) (A B:Unit→Prop):Prop :=
 match v with
 | .tup []=>B ()
 | v=>(match want with | true=>brV v A B | false=>brV v B A)
def vZ (all:List Oper) (o:Oper) (τ:Nat→PV) (A B:Unit→Prop):Prop :=
 match o.guard with
 | none=>A ()
 | some (j,want)=>match all[j]? with
  | some oj=>match oj.dst with
   | some d=>gdV want (τ d) A B
   | none=>False
  | none=>False
def isG (all:List Oper) (o:Oper):Bool :=
 match o.dst with
 | none=>false
 | some d=>all.any fun o'=>match o'.guard with
  | none=>false
  | some (j,_)=>match all[j]? with
   | some oj=>match oj.dst with
    | some d'=>nqb d d'
    | none=>false
   | none=>false
def rR (all:List Oper) (o:Oper) (ps:PS) (K:PS→Prop):Prop :=
 (match isG all o with
  | true=>(match o.dst with
  | some d=>match zB ps.tmps d with
   | .bool b=>Br b (fun _=>K ⟨uG ps.tmps d .tt,ps.objs⟩) (fun _=>K ⟨uG ps.tmps d .ff,ps.objs⟩)
   | .nbool b=>Br b (fun _=>K ⟨uG ps.tmps d .ff,ps.objs⟩) (fun _=>K ⟨uG ps.tmps d .tt,ps.objs⟩)
   | _=>K ps
  | none=>K ps)
  | false=>K ps)
def dT (all:List Oper):List Oper→PS→(PS→Prop)→Prop
 | [],ps,K=>K ps
 | o::r,ps,K=>vZ all o (zB ps.tmps) (fun _=>qN ps.objs o.op (ev (zB ps.tmps)) (fun v=>rR all o (put ps o.dst v) (fun ps'=>dT all r ps' K))) (fun _=>dT all r (put ps o.dst (.tup [])) K)
structure LeS (a b:PV):Prop where
 h:Le a b
structure ElsEq (e e':Unit→List (List D)):Prop where
 h:e ()=e' ()
def qJ (f:PV→PV→Prop):List PV→List PV→Prop
 | [],[]=>True
 | a::r,b::q=>f a b∧qJ f r q
 | _,_=>False
def les1:PV→PV→Prop
 | .agg a,.agg b=>qJ LeS a b
 | .tup a,.tup b=>qJ LeS a b
 | a,b=>LeS a b
def les:PV→PV→Prop
 | .agg a,.agg b=>qJ les1 a b
 | .tup a,.tup b=>qJ les1 a b
 | .fn f a,.fn g b=>nqb f g=true∧qJ les1 a b
 | a,b=>LeS a b
def zFS:Obj'→Obj'→Prop
 | .box a,.box b=>qJ les a b
 | .arr s e,.arr s' e'=>nqb s s'=true∧ElsEq e e'
 | .log s e,.log s' e'=>nqb s s'=true∧ElsEq e e'
 | .lent s e,.lent s' e'=>nqb s s'=true∧ElsEq e e'
 | .lent s e,.log s' e'=>nqb s s'=true∧ElsEq e e'
 | _,_=>False
def leT (src:List (Nat × PV)):List (Nat × PV)→Prop
 | []=>True
 | (t,v)::r=>les (zB src t) v∧leT src r
def leO (src:List (Nat × Obj')):List (Nat × Obj')→Prop
 | []=>True
 | (n,o)::r=>(match yG src n with
  | some o'=>zFS o' o
  | none=>False)∧leO src r
def hasN (n:Nat):List (Nat × Obj')→Bool
 | []=>false
 | (m,_)::r=>nqb m n || hasN n r
def ndO:List (Nat × Obj')→Bool
 | []=>true
 | (n,_)::r=>!(hasN n r) && ndO r
def wO:Obj'→Bool
 | .box cs=>yT iL cs
 | .arr _ _=>true
 | .log _ _=>false
 | .lent _ _=>false
def l5:Obj'→Bool
 | .box cs=>yT iL cs
 | _=>true
def foT (n:Nat) (o:Obj'):List (Nat × PV)→Prop
 | []=>True
 | (_,v)::r=>fo n o v∧foT n o r
def foO (n:Nat) (o:Obj'):List (Nat × Obj')→Prop
 | []=>True
 | (_,.box cs)::r=>allP (fo n o) cs∧foO n o r
 | (_,.arr _ _)::r=>foO n o r
 | (_,.log _ _)::r=>foO n o r
 | (_,.lent _ _)::r=>foO n o r
def zFR (n:Nat) (o:Obj') (ps:PS):PS:=⟨vW (frz n o) ps.tmps,xL (frz n o) (wR ps.objs n)⟩
inductive Wk:PS→PS→Prop
 | refl (ps):Wk ps ps
 | le {ps ps'} (ht:leT ps.tmps ps'.tmps) (ho:leO ps.objs ps'.objs) (hn:ndO ps'.objs=true):Wk ps ps'
 | frz {ps} (n:Nat) {o} (ho:yG ps.objs n=some o) (hc:l5 o=true) (hT:foT n o ps.tmps) (hO:foO n o ps.objs):Wk ps (zFR n o ps)
 | lend {ps} (n t:Nat) {o s els} (ho:yG ps.objs n=some o) (hr:o8 o=some (s,els)) (hf:fo n o (zB ps.tmps t)):Wk ps ⟨uG ps.tmps t (frz n o (zB ps.tmps t)),setO ps.objs n (.log s els)⟩
 | pub {ps} (n:Nat) {o s els} (ho:yG ps.objs n=some o) (hr:o8 o=some (s,els)):Wk ps ⟨ps.tmps,setO ps.objs n (.lent s els)⟩
 | fresh {ps} (n s:Nat) (hf:yR n ps=true):Wk ps ⟨ps.tmps,ps.objs++[(n,.arr s (fun _=>[]))]⟩
 | drop {ps} (n:Nat):Wk ps ⟨vW (scr n) ps.tmps,xL (scr n) (wR ps.objs n)⟩
 | adoptT {ps} (n s t:Nat) (hf:yR n ps=true) (ht:zB ps.tmps t=.nil):Wk ps ⟨uG ps.tmps t (.osl n s (fun _=>0) (fun _=>0)),ps.objs++[(n,.arr s (fun _=>[]))]⟩
 | adoptB {ps} (n s m j:Nat) {cs} (hf:yR n ps=true) (ho:yG ps.objs m=some (.box cs)) (hj:cs[j]?=some .nil) :
   Wk ps ⟨ps.tmps,setO ps.objs m (.box (cs.set j (.osl n s (fun _=>0) (fun _=>0))))++[(n,.arr s (fun _=>[]))]⟩
 | trans {a b c} (h:Wk a b) (k:Wk b c):Wk a c
def rn0 (h:Nat→Nat):PV→PV
 | .ptr m off=>.ptr (h m) off
 | .aptr m s i off=>.aptr (h m) s i off
 | .osl m s i len=>.osl (h m) s i len
 | v=>v
def rn1 (h:Nat→Nat):PV→PV
 | .agg cs=>.agg (wF (rn0 h) cs)
 | .tup cs=>.tup (wF (rn0 h) cs)
 | .fn f cs=>.fn f (wF (rn0 h) cs)
 | v=>rn0 h v
def ren (h:Nat→Nat):PV→PV
 | .agg cs=>.agg (wF (rn1 h) cs)
 | .tup cs=>.tup (wF (rn1 h) cs)
 | .fn f cs=>.fn f (wF (rn1 h) cs)
 | v=>rn0 h v
def renL (h:Nat→Nat):List PV→List PV:=wF (ren h)
def lv0:PV→Bool
 | .agg _=>false
 | .tup _=>false
 | .fn _ _=>false
 | _=>true
def lv1:PV→Bool
 | .agg cs=>yT lv0 cs
 | .tup cs=>yT lv0 cs
 | .fn _ cs=>yT lv0 cs
 | _=>true
def lv:PV→Bool
 | .agg cs=>yT lv1 cs
 | .tup cs=>yT lv1 cs
 | .fn _ cs=>yT lv1 cs
 | _=>true
def scrs:List Nat→PV→PV
 | [],v=>v
 | n::r,v=>scrs r (scr n v)
def bW:List Nat→List (Nat × Obj')→List (Nat × Obj')
 | [],l=>l
 | n::r,l=>bW r (wR l n)
def sY (h:Nat→Nat) (l:List (Nat × Obj')):List (Nat × Obj')→Prop
 | []=>True
 | (n,o)::r=>(yG l (h n)=some o∧wO o=true)∧sY h l r
def pW (h:Nat→Nat) (l:List (Nat × Obj')):List (Nat × Obj')→List (Nat × Obj')
 | []=>l
 | (n,o)::r=>pW h (setO l (h n) o) r
def y7 (h:Nat→Nat):List (Nat × Obj')→List (Nat × Obj')
 | []=>[]
 | (n,o)::r=>(h n,o)::y7 h r
def uJ (h:Nat→Nat) (eaten:List (Nat × Obj')) (ps:PS):PS :=
 ⟨vW (scrs ((y7 h eaten).map Prod.fst)) ps.tmps,xL (scrs ((y7 h eaten).map Prod.fst)) (bW ((y7 h eaten).map Prod.fst) ps.objs)⟩
def sZ (h:Nat→Nat) (ps:PS):List (Nat × Obj')→Bool
 | []=>true
 | (n,_)::r=>yR (h n) ps && sZ h ps r
def bA:List (Nat × Obj')→Bool
 | []=>true
 | (_,o)::r=>wO o && bA r
def lU (h:Nat→Nat) (eaten kept' made:List (Nat × Obj')) (ps:PS):PS :=
 ⟨(uJ h eaten ps).tmps,pW h (uJ h eaten ps).objs kept'++y7 h made⟩
def nmsO:List (Nat × Obj')→List Nat
 | []=>[]
 | (n,_)::r=>n::nmsO r
structure CallOk (g : Operand) (as_ : List Operand) (dst : Option Nat) (ps : PS) (K : PS → Prop) : Prop where
  h : ∃ ps', Wk ps ps' ∧ ∃ f caps, ev (zB ps'.tmps) g = .fn f caps ∧
    ((∃ args' r, LeL (evs (ev (zB ps'.tmps)) as_ ++ caps) args' ∧ zE f args' r ∧ nmIn [] r = true ∧ K (put ps' dst r)) ∨
     (∃ (hn : Nat → Nat) (cargs : List PV) (kept eaten : List (Nat × Obj')) (r : PV) (kept' made : List (Nat × Obj')),
        LeL (evs (ev (zB ps'.tmps)) as_ ++ caps) (renL hn cargs) ∧ Sound f cargs kept eaten r kept' made ∧
        sY hn ps'.objs (kept ++ eaten) ∧ ndO (y7 hn (kept ++ eaten)) = true ∧ ndO (kept ++ eaten) = true ∧
        bA (kept' ++ made) = true ∧ ndO (y7 hn made) = true ∧ sZ hn (uJ hn eaten ps') made = true ∧
        yT lv cargs = true ∧ lv r = true ∧ nmIn (nmsO (kept' ++ made)) r = true ∧
        K (put (lU hn eaten kept' made ps') dst (ren hn r))))
def j3 (lg:Bool) (s:Nat) (els:Unit→List (List D)):Obj' :=
 match lg with
 | true=>.log s els
 | false=>.arr s els
structure AppOk (t : TypeId) (base x : Operand) (dst : Option Nat) (ps : PS) (K : PS → Prop) : Prop where
  h : ∃ ps' d nm n b z xs, Wk ps ps' ∧ dst = some d ∧ ty t = .sli n b z ∧
    (ev (zB ps'.tmps) x = .sl xs ∨ (ev (zB ps'.tmps) x = .nil ∧ xs () = [])) ∧ Wid n xs ∧
    ((ev (zB ps'.tmps) base = .nil ∧ Room (fun _ => ((xs ()).length : Nat)) b ∧ yR nm ps' = true ∧ K ⟨uG ps'.tmps d (.osl nm n (fun _ => 0) (fun _ => (xs ()).length)), ps'.objs ++ [(nm, .arr n xs)]⟩) ∨
     (∃ lg m o len els, ev (zB ps'.tmps) base = .osl m n o len ∧ yG ps'.objs m = some (j3 lg n els) ∧ o () = 0 ∧ len () = (els ()).length ∧ Room (fun _ => (((els ()).length + (xs ()).length : Nat) : Int)) b ∧
       yR nm ⟨vW (scr m) ps'.tmps, xL (scr m) (wR ps'.objs m)⟩ = true ∧
       K ⟨uG (vW (scr m) ps'.tmps) d (.osl nm n (fun _ => 0) (fun _ => (els ()).length + (xs ()).length)), xL (scr m) (wR ps'.objs m) ++ [(nm, j3 lg n (fun _ => els () ++ xs ()))]⟩))
def eI (d:Nat) (cs:List PV) (ps:PS) (K:PS→Prop):Prop :=
 (match yR d ps with | true=>K ⟨uG ps.tmps d (.ptr d 0),ps.objs++[(d,.box cs)]⟩ | false=>False)
def b7 (o:Oper) (ps:PS) (K:PS→Prop):Prop :=
 match o.op with
 | .alloc t=>match o.dst with
  | some d=>(match (ty t).isNo with | true=>False | false=>eI d (ty t).zero ps K)
  | none=>False
 | .box t x=>match o.dst with
  | some d=>(match qO (ev (zB ps.tmps) x) with | true=>eI d (yJ (ev (zB ps.tmps) x)) ps K | false=>False)
  | none=>False
 | .store t a v=>match ev (zB ps.tmps) a with
  | .ptr n off=>match yG ps.objs n with
   | some (.box cs)=>(match nqb (yJ (ev (zB ps.tmps) v)).length (ty t).cells && nle (off+(ty t).cells) cs.length && nlt 0 (ty t).cells && yT b9 (yJ (ev (zB ps.tmps) v)) with | true=>K (put ⟨ps.tmps,setO ps.objs n (.box (w6 cs off (yJ (ev (zB ps.tmps) v))))⟩ o.dst .any) | false=>False)
   | _=>False
  | .aptr n s i off=>match yG ps.objs n with
   | some (.arr s' els)=>(match nqb s s' && nqb (yJ (ev (zB ps.tmps) v)).length (ty t).cells && nle (off+(ty t).cells) s && nlt 0 (ty t).cells && yT t8 (yJ (ev (zB ps.tmps) v)) with | true=>ElOk s els i (fun c=>K (put ⟨ps.tmps,setO ps.objs n (.arr s (fun _=>(els ()).set (i ()) (yW (w6 c off (yJ (ev (zB ps.tmps) v))))))⟩ o.dst .any)) | false=>False)
   | _=>False
  | _=>False
 | .makeSlice t l c=>match ty t,o.dst,ev (zB ps.tmps) l,ev (zB ps.tmps) c with
  | .sli n b z,some d,.int .i64 x,.int .i64 y=>Room y b∧MkOk x y∧((match yR d ps && yT t8 z with | true=>K ⟨uG ps.tmps d (.osl d n (fun _=>0) (fun _=>(x ()).toNat)),ps.objs++[(d,.arr n (fun _=>List.replicate (x ()).toNat (yW z)))]⟩ | false=>False))
  | _,_,_,_=>False
 | .call c=>match c.callee with
  | .value g=>CallOk g c.args.toList o.dst ps K
  | .builtin .append=>match c.args.toList,c.argTypes.toList with
   | [b,x],[t,tx]=>(match tT (ty tx) with | true=>AppOk t b x o.dst ps K | false=>False)
   | _,_=>False
  | .builtin _=>sop ps.objs o.op (ev (zB ps.tmps)) (fun v=>K (put ps o.dst v))
  | _=>False
 | .binOp .eql t x (.const (.slice none 0 0)) _=>match ty t,ev (zB ps.tmps) x with
  | .sli _ _ _,.sl els=>NilCmp els (fun v=>K (put ps o.dst v))
  | _,_=>False
 | op=>sop ps.objs op (ev (zB ps.tmps)) (fun v=>K (put ps o.dst v))
def vF (all:List Oper):List Oper→PS→(PS→Prop)→Prop
 | [],ps,K=>K ps
 | o::r,ps,K=>vZ all o (zB ps.tmps) (fun _=>b7 o ps (fun ps'=>rR all o ps' (fun ps''=>vF all r ps'' K))) (fun _=>vF all r (put ps o.dst (.tup [])) K)
def qT:List Oper→Bool
 | []=>true
 | o::r=>(match o.dst with
  | none=>true
  | some d=>r.all fun x=>!(x.dst == some d)) && qT r
def qE (ops : List Oper) (o : Oper) : List Nat :=
  (o.op.operands.toList.filterMap fun | .tmp t => some t | _ => none) ++
  (match o.guard with
   | some (g, _) => ((ops[g]?).bind (·.dst)).toList
   | none => [])
def pN (acc:List Nat) (o:Oper):Nat:=o.after.toList.foldl (fun s e=>if Region.binds .any e then s ||| (2 ^ e.on ||| acc.getD e.on 0) else s) 0
def zML:List Oper→List Nat→List Nat
 | [],acc=>acc
 | o::r,acc=>zML r (acc++[pN acc o])
def anc (ops:List Oper):List Nat:=zML ops []
def uS (ops:List Oper) (k:Nat):Bool :=
 let an:=anc ops
 qT (ops.take k) &&
 (List.range k).all (fun i=>match ops[i]? with
  | some o=>(qE ops o).all fun t=>(List.range k).all fun j=>match ops[j]? with
   | some oj=>!(oj.dst == some t) || ((decide (j<i) && (an.getD i 0).testBit j) || (decide (i<j) && (an.getD j 0).testBit i))
   | none=>true
  | none=>false) &&
 (List.range ops.length).all (fun i=>match ops[i]? with
  | some o=>o.after.toList.all fun e=>!(Region.binds .any e) || decide (e.on<i)
  | none=>false) &&
 (List.range ops.length).all (fun i=>decide (i<k) || (List.range i).all fun j=>(an.getD i 0).testBit j)
def xT (o:Oper):Option (Nat × Obj') :=
 match o.guard with
 | some _=>none
 | none=>match o.op with
  | .alloc t=>(match (ty t).isNo with
   | true=>none
   | false=>match o.dst with
    | some d=>some (d,.box (ty t).zero)
    | none=>none)
  | _=>none
def yI:List Oper→List (Nat × Obj')
 | []=>[]
 | o::r=>match xT o with
  | some x=>x::yI r
  | none=>yI r
def jV (all:List Oper):List Oper→PS→(PS→Prop)→Prop
 | [],ps,K=>K ps
 | o::r,ps,K=>match xT o with
  | some (d,_)=>jV all r (put ps (some d) (.ptr d 0)) K
  | none=>vZ all o (zB ps.tmps) (fun _=>qN ps.objs o.op (ev (zB ps.tmps)) (fun v=>rR all o (put ps o.dst v) (fun ps'=>jV all r ps' K))) (fun _=>jV all r (put ps o.dst (.tup [])) K)
def mfT (n:Nat):List (Nat × PV)→Bool
 | []=>true
 | (t,v)::r=>(match t == n with
  | true=>true
  | false=>wS n v) && mfT n r
def mkIn (ps:PS):List (Nat × Obj')→Bool
 | []=>true
 | (n,_)::r=>yR n ps && mkIn ps r
def nV (T:List (Nat × PV)):List (Nat × Obj')→Bool
 | []=>true
 | (n,_)::r=>mfT n T && nV T r
def zI2 (o:Oper):Bool :=
 match o.op with
 | .load _ _=>false
 | _=>true
def zIU (ops:List Oper) (k i0:Nat) (us:List Nat):Bool :=
 nlt i0 k && (match ops[i0]? with
  | some o=>(match o.guard,o.dst,o.op with
   | none,none,.store _ _ _=>true
   | _,_,_=>false)
  | none=>false) &&
 (List.range k).all (fun i=>nqb i i0 || (match ops[i]? with
  | some o=>zI2 o || (nlt i i0 && ((anc ops).getD i0 0).testBit i) || (nlt i0 i && ((anc ops).getD i 0).testBit i0) || (nlt i i0 && z5 i us)
  | none=>false))
def usWp (all:List Oper) (us:List Nat) (n:Nat):List Oper→Nat→PS→(PS→Prop)→Prop
 | [],_,ps,K=>K ps
 | o::r,i,ps,K=>vZ all o (zB ps.tmps) (fun _=>qN (match z5 i us with | true=>wR ps.objs n | false=>ps.objs) o.op (ev (zB ps.tmps)) (fun v=>rR all o (put ps o.dst v) (fun ps'=>usWp all us n r (i+1) ps' K))) (fun _=>usWp all us n r (i+1) (put ps o.dst (.tup [])) K)
def stTo (us:List Nat) (n:Nat) (o:Oper) (ps:PS):Bool :=
 match us with
 | []=>true
 | _=>(match o.op with
  | .store _ a _=>(match ev (zB ps.tmps) a with
   | .ptr m _=>nqb m n
   | .aptr m _ _ _=>nqb m n
   | _=>false)
  | _=>false)
def zIT (ops:List Oper) (k i0 n:Nat) (us:List Nat) (ps:PS) (K:PS→Prop):Prop :=
 usWp ops us n (ops.take i0) 0 ps (fun p1=>match ops[i0]? with
  | some o=>stTo us n o p1=true∧b7 o p1 (fun p2=>dT ops ((ops.take k).drop (i0+1)) p2 (fun p3=>vF ops (ops.drop k) p3 K))
  | none=>False)
structure Eff1 (g:Operand) (as_:List Operand) (T:List (Nat × PV)) (o:Option Obj') (n:Nat) (K:PV→Obj'→Prop):Prop where
 h:∃ (f:FuncId) (caps:List PV) (hn:Nat→Nat) (cargs:List PV) (m:Nat) (x:Obj') (r:PV) (x':Obj'),ev (zB T) g=.fn f caps ∧
  LeL (evs (ev (zB T)) as_++caps) (renL hn cargs)∧Sound f cargs [(m,x)] [] r [(m,x')] []∧hn m=n∧o=some x∧wO x=true∧wO x'=true ∧
  yT lv cargs=true∧lv r=true∧nmIn [m] r=true∧K (ren hn r) x'
def zCW (ms:List (Nat × Obj')) (cs:List PV):Bool :=
 match ms with
 | []=>true
 | (d,_)::r=>xW d cs && zCW r cs
def eff1 (ms:List (Nat × Obj')) (o:Oper) (n:Nat) (T:List (Nat × PV)) (O:List (Nat × Obj')) (K:PV→Obj'→Prop):Prop :=
 match o.guard with
 | some _=>False
 | none=>match o.op with
  | .store t a v=>(match o.dst with
   | some _=>False
   | none=>match ev (zB T) a with
    | .ptr m off=>(match nqb m n with
     | true=>(match yG O n with
      | some (.box cs)=>(match nqb (yJ (ev (zB T) v)).length (ty t).cells && nle (off+(ty t).cells) cs.length && nlt 0 (ty t).cells && yT b9 (yJ (ev (zB T) v)) && zCW ms (w6 cs off (yJ (ev (zB T) v))) with
       | true=>K .any (.box (w6 cs off (yJ (ev (zB T) v))))
       | false=>False)
      | _=>False)
     | false=>False)
    | _=>False)
  | .call c=>(match c.callee with
   | .value g=>Eff1 g c.args.toList T (yG O n) n K
   | _=>False)
  | _=>False
def yK:List (Nat × Nat)→Nat→Option Nat
 | [],_=>none
 | (i,n)::r,j=>(match nqb i j with | true=>some n | false=>yK r j)
def efWp (all:List Oper) (es:List (Nat × Nat)) (ms lim:List (Nat × Obj')):List Oper→Nat→List (Nat × PV)→List (Nat × Obj')→(List (Nat × PV)→List (Nat × Obj')→Prop)→Prop
 | [],_,T,O,K=>K T O
 | o::r,i,T,O,K=>match xT o with
  | some (d,x)=>efWp all es ms lim r (i+1) (uG T d (.ptr d 0)) (O++[(d,x)]) K
  | none=>match yK es i with
   | some n=>eff1 ms o n T O (fun v x=>efWp all es ms lim r (i+1) (put ⟨T,[]⟩ o.dst v).tmps (setO O n x) K)
   | none=>vZ all o (zB T) (fun _=>qN lim o.op (ev (zB T)) (fun v=>rR all o (put ⟨T,[]⟩ o.dst v) (fun p=>efWp all es ms lim r (i+1) p.tmps O K))) (fun _=>efWp all es ms lim r (i+1) (put ⟨T,[]⟩ o.dst (.tup [])).tmps O K)
def vR:List (Nat × Nat)→List Nat
 | []=>[]
 | (_,n)::r=>n::vR r
def zFP:List Nat→Bool
 | []=>true
 | n::r=>!(z5 n r) && zFP r
def efOk (ops:List Oper) (k:Nat) (es:List (Nat × Nat)):Bool :=
 zFP (vR es) && es.all (fun e=>nlt e.1 k && (match ops[e.1]? with
  | some o=>(match xT o with
   | some _=>false
   | none=>true)
  | none=>false) && (List.range k).all fun j=>match ops[j]? with
  | some oj=>(match xT oj with
   | some (d,_)=>!(nqb d e.2) || ((anc ops).getD e.1 0).testBit j
   | none=>true)
  | none=>true)
def scA (P:List Nat):PV→PV
 | .agg _=>.any
 | .tup _=>.any
 | .fn _ _=>.any
 | .ptr m off=>(match z5 m P with | true=>.any | false=>.ptr m off)
 | .aptr m s i off=>(match z5 m P with | true=>.any | false=>.aptr m s i off)
 | .osl m s i len=>(match z5 m P with | true=>.any | false=>.osl m s i len)
 | v=>v
def scB (P:List Nat):PV→PV
 | .agg cs=>.agg (wF (scA P) cs)
 | .tup cs=>.tup (wF (scA P) cs)
 | .fn f cs=>.fn f (wF (scA P) cs)
 | v=>scA P v
def scC (P:List Nat):PV→PV
 | .agg cs=>.agg (wF (scB P) cs)
 | .tup cs=>.tup (wF (scB P) cs)
 | .fn f cs=>.fn f (wF (scB P) cs)
 | v=>scA P v
structure EffA (t : TypeId) (x : Operand) (v : PV) (T : List (Nat × PV)) (o : Option Obj') (n : Nat) (K : PV → Obj' → Prop) : Prop where
  h : ∃ (s b : Nat) (z : List PV) (xs : Unit → List (List D)) (lg : Bool) (els : Unit → List (List D)), ty t = .sli s b z ∧ (ev (zB T) x = .sl xs ∨ (ev (zB T) x = .nil ∧ xs () = [])) ∧ Wid s xs ∧
    o = some (j3 lg s els) ∧ ((∃ o' len : Unit → Nat, v = .osl n s o' len ∧ o' () = 0 ∧ len () = (els ()).length ∧ Room (fun _ => (((els ()).length + (xs ()).length : Nat) : Int)) b ∧
      K (.osl n s (fun _ => 0) (fun _ => (els ()).length + (xs ()).length)) (j3 lg s (fun _ => els () ++ xs ()))) ∨
     (v = .nil ∧ Room (fun _ => ((xs ()).length : Nat)) b ∧ K (.osl n s (fun _ => 0) (fun _ => (xs ()).length)) (.arr s xs)))
def effA (o:Oper) (n:Nat) (T:List (Nat × PV)) (O:List (Nat × Obj')) (K:PV→Obj'→Prop):Prop :=
 match o.guard with
 | some _=>False
 | none=>match o.op with
  | .call c=>(match c.callee with
   | .builtin .append=>(match c.args.toList,c.argTypes.toList,o.dst with
    | [b,x],[t,tx],some d=>(match tT (ty tx) && nqb d n with
     | true=>EffA t x (ev (zB T) b) T (yG O n) n K
     | false=>False)
    | _,_,_=>False)
   | _=>False)
  | _=>False
def kI (an:List Nat) (i:Nat):List (Nat × Nat)→List Nat
 | []=>[]
 | (e,m)::r=>(match (an.getD e 0).testBit i with | true=>kI an i r | false=>m::kI an i r)
def apWp (all:List Oper) (es:List (Nat × Nat)) (an:List Nat) (lim:List (Nat × Obj')):List Oper→Nat→List (Nat × PV)→List (Nat × Obj')→(List (Nat × PV)→List (Nat × Obj')→Prop)→Prop
 | [],_,T,O,K=>K T O
 | o::r,i,T,O,K=>match yK es i with
  | some n=>effA o n T O (fun v x=>apWp all es an lim r (i+1) (put ⟨T,[]⟩ o.dst v).tmps (setO O n x) K)
  | none=>vZ all o (zB (vW (scC (kI an i es)) T)) (fun _=>qN (xL (scC (kI an i es)) lim) o.op (ev (zB (vW (scC (kI an i es)) T))) (fun v=>rR all o (put ⟨T,[]⟩ o.dst v) (fun p=>apWp all es an lim r (i+1) p.tmps O K))) (fun _=>apWp all es an lim r (i+1) (put ⟨T,[]⟩ o.dst (.tup [])).tmps O K)
def gX (P:List Nat):List (Nat × PV)→List (Nat × PV)
 | []=>[]
 | (t,v)::r=>(t,(match z5 t P with | true=>v | false=>scC P v))::gX P r
def apOk (k:Nat) (es:List (Nat × Nat)):Bool :=
 zFP (vR es) && es.all (fun e=>nlt e.1 k && nlt e.2 1000000 && (match yK es e.1 with | some n=>nqb n e.2 | none=>false))
structure DrawK (ops:List Oper) (ps:PS) (K:PS→Prop):Prop where
 h:(∃ k ps',Wk ps ps'∧uS ops k=true∧dT ops (ops.take k) ps' (fun ps''=>vF ops (ops.drop k) ps'' K)) ∨
  (∃ k ps',Wk ps ps'∧uS ops k=true∧(ndO (yI (ops.take k)) && mkIn ps' (yI (ops.take k)))=true ∧
   jV ops (ops.take k) ps' (fun ps''=>nV ps''.tmps (yI (ops.take k))=true∧vF ops (ops.drop k) ⟨ps''.tmps,ps''.objs++yI (ops.take k)⟩ K)) ∨
  (∃ k i0 n us ps',Wk ps ps'∧uS ops k=true∧zIU ops k i0 us=true∧zIT ops k i0 n us ps' K) ∨
  (∃ k es ps',Wk ps ps'∧uS ops k=true∧efOk ops k es=true∧(ndO (yI (ops.take k)) && mkIn ps' (yI (ops.take k)))=true ∧
   efWp ops es (yI (ops.take k)) (bW (vR es) ps'.objs) (ops.take k) 0 ps'.tmps ps'.objs (fun T O=>nV T (yI (ops.take k))=true∧vF ops (ops.drop k) ⟨T,O⟩ K)) ∨
  (∃ k es ps',Wk ps ps'∧uS ops k=true∧apOk k es=true ∧
   apWp ops es (anc ops) (bW (vR es) ps'.objs) (ops.take k) 0 ps'.tmps ps'.objs (fun T O=>vF ops (ops.drop k) ⟨gX (vR es) T,xL (scC (vR es)) O⟩ K))
def eP {σ:Type} (inv:σ→PS) (good:σ→Prop) (Q:Exit→PS→Prop):Exit→PS→Prop
 | .normal,ps'=>∃ s,good s∧Wk ps' (inv s)
 | e,ps'=>Q e ps'
structure Cut (b:Unit→Bool) (A B:(Exit→PS→Prop)→Prop) (Q:Exit→PS→Prop):Prop where
 h:((b ()=true→A Q)∧(b ()=false→B Q)) ∨
  ∃ (σ:Type) (inv:σ→PS) (good:σ→Prop),(b ()=true→A (eP inv good Q))∧(b ()=false→B (eP inv good Q))∧∀ s,good s→Q .normal (inv s)
structure LoopOk (B:PS→(Exit→PS→Prop)→Prop) (ps:PS) (Q:Exit→PS→Prop):Prop where
 h:∃ (σ:Type) (inv:σ→PS) (good:σ→Prop) (mu:σ→Nat) (s0:σ),good s0∧Wk ps (inv s0) ∧
  ∀ s,good s→B (inv s) (fun e ps'=>match e with
   | .normal=>∃ s',good s'∧mu s'<mu s∧Wk ps' (inv s')
   | e=>Q e ps')
def zMI:List Oper→List Nat→Bool
 | [],_=>false
 | o::r,ds=>(match o.guard with
  | none=>zMI r (ds++[0])
  | some (j,_)=>(match nle 2 (ds.getD j 0) with | true=>true | false=>zMI r (ds++[ds.getD j 0+1])))
structure RegK (ops:List Oper) (ps:PS) (K:PS→Prop):Prop where
 h:vF ops ops ps K∨∃ (σ:Type) (inv:σ→PS) (good:σ→Prop),vF ops ops ps (fun ps'=>∃ s,good s∧Wk ps' (inv s))∧∀ s,good s→K (inv s)
def wp:Code→PS→(Exit→PS→Prop)→Prop
 | .skip,ps,Q=>Q .normal ps
 | .region _ ops false,ps,Q=>(match zMI ops.toList [] with | true=>RegK ops.toList ps (Q .normal) | false=>vF ops.toList ops.toList ps (Q .normal))
 | .region _ ops true,ps,Q=>DrawK ops.toList ps (Q .normal)
 | .seq a b,ps,Q=>wp a ps fun e ps'=>match e with
   | .normal=>wp b ps' Q
   | e=>Q e ps'
 | .cond c a b,ps,Q=>match ev (zB ps.tmps) c with
   | .tt=>wp a ps Q
   | .ff=>wp b ps Q
   | .bool x=>Cut x (fun Q=>wp a ps Q) (fun Q=>wp b ps Q) Q
   | .nbool x=>Cut x (fun Q=>wp b ps Q) (fun Q=>wp a ps Q) Q
   | _=>False
 | .block id b,ps,Q=>wp b ps fun e ps'=>match e with
   | .exit i=>(match nqb i id with | true=>Q .normal ps' | false=>Q (.exit i) ps')
   | e=>Q e ps'
 | .exit id,ps,Q=>Q (.exit id) ps
 | .ret,ps,Q=>Q .ret ps
 | .loop b,ps,Q=>LoopOk (fun ps Q=>wp b ps Q) ps Q
 | _,_,_=>False
def rdV (t:Ty) (cs:List PV) (off:Nat):Option PV :=
 (match t.isNo with | true=>none | false=>(match nle (off+t.cells) cs.length with | true=>some ((match t.isA with | true=>.agg ((cs.drop off).take t.cells) | false=>cs.getD off .any)) | false=>none))
def dV (ps:PS):List ResultVar→Option (List PV)
 | []=>some []
 | .tmp t::r=>match dV ps r with
  | some l=>some (zB ps.tmps t::l)
  | none=>none
 | .cell a t::r=>match zB ps.tmps a with
  | .ptr n off=>match yG ps.objs n with
   | some (.box cs)=>match rdV (ty t) cs off,dV ps r with
    | some v,some l=>some (v::l)
    | _,_=>none
   | _=>none
  | _=>none
def mV:List PV→PV
 | [v]=>v
 | l=>.tup l
def zF7 (h:Nat→Nat):List (Nat × Obj')→Prop
 | []=>True
 | (n,_)::r=>(h n=n∧1000000≤n)∧zF7 h r
structure RetOk (rs:List ResultVar) (r:PV) (kept' made:List (Nat × Obj')) (ps:PS):Prop where
 h:∃ ps' l hn,Wk ps ps'∧dV ps' rs=some l∧Le (mV l) (ren hn r)∧lv r=true∧sY hn ps'.objs (kept'++made)∧ndO (y7 hn (kept'++made))=true∧zF7 hn kept'
def jI (rs:List ResultVar) (r:PV) (kept' made:List (Nat × Obj')):Exit→PS→Prop
 | .normal,ps=>RetOk rs r kept' made ps
 | .ret,ps=>RetOk rs r kept' made ps
 | _,_=>False
end Go.Proofs.YtgcpehdkdnkgeaaGreat
