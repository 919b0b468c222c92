/- A part of the proof: PmC. -/
import Derived.Test.YtboocdbmnfjomaaGreatV03
set_option linter.all false
namespace Go.Proofs.YtboocdbmnfjomaaGreat
open Go
def KP (n:Nat):List (Nat×Obj')->Bool
 |[]=>false| (m,_)::r=>nqb m n || KP n r
def ndO:List (Nat×Obj')->Bool
 |[]=>true| (n,_)::r=>!(KP n r)&&ndO r
def rn0 (h:Nat->Nat):PV->PV
 |.ptr m off=>.ptr (h m) off| .aptr m s i off=>.aptr (h m) s i off| .osl m s i len=>.osl (h m) s i len| v=>v
def rn1 (h:Nat->Nat):PV->PV
 |.agg cs=>.agg (wW (rn0 h) cs)| .tup cs=>.tup (wW (rn0 h) cs)| .fn f cs=>.fn f (wW (rn0 h) cs)| v=>rn0 h v
def ren (h:Nat->Nat):PV->PV
 |.agg cs=>.agg (wW (rn1 h) cs)| .tup cs=>.tup (wW (rn1 h) cs)| .fn f cs=>.fn f (wW (rn1 h) cs)| v=>rn0 h v
def iJ (h:Nat->Nat):List PV->List PV:=wW (ren h)
def lv0:PV->Bool
 |.agg _=>false| .tup _=>false| .fn _ _=>false| _=>true
def lv1:PV->Bool
 |.agg cs=>yX lv0 cs| .tup cs=>yX lv0 cs| .fn _ cs=>yX lv0 cs| _=>true
def lv:PV->Bool
 |.agg cs=>yX lv1 cs| .tup cs=>yX lv1 cs| .fn _ cs=>yX lv1 cs| _=>true
def xY (f:PV->PV):Obj'->Obj'
 |.box cs=>.box (wW f cs)| .arr s els=>.arr s els| .log s els=>.log s els| .lent s els=>.lent s els| .mat s rows hs=>.mat s rows (gG f hs)
def B7 (p:PV->Bool):List (PV×(Unit->Nat))->Bool
 |[]=>true| (v,_)::r=>p v&&B7 p r
def bK:Obj'->Bool
 |.box cs=>yX lv cs| .arr _ _=>true| .log _ _=>false| .lent _ _=>false| .mat _ _ hs=>B7 lv hs
def J8 (l:List Nat):Obj'->Bool
 |.box cs=>yX (nmIn l) cs| .mat _ _ hs=>B7 (nmIn l) hs| _=>true
def cK (l:List Nat):List (Nat×Obj')->Bool
 |[]=>true| (_,o)::r=>(bK o&&J8 l o)&&cK l r
def bG:List Nat->PV->PV
 |[],v=>v| n::r,v=>bG r (scr n v)
def gJ:List Nat->List (Nat×Obj')->List (Nat×Obj')
 |[],l=>l| n::r,l=>gJ r (xK l n)
def uA (h:Nat->Nat) (l:List (Nat×Obj')):List (Nat×Obj')->Prop
 |[]=>True| (n,o)::r=>(yK l (h n)=some (xY (ren h) o)/\bK o=true)/\uA h l r
def rB (h:Nat->Nat) (l:List (Nat×Obj')):List (Nat×Obj')->List (Nat×Obj')
 |[]=>l| (n,o)::r=>rB h (setO l (h n) (xY (ren h) o)) r
def yC (h:Nat->Nat):List (Nat×Obj')->List (Nat×Obj')
 |[]=>[]| (n,o)::r=>(h n,xY (ren h) o)::yC h r
def bR:List (Nat×Obj')->List Nat
 |[]=>[]| (n,_)::r=>n::bR r
structure CallS (nb:Bool) (objs:List (Nat×Obj')) (f:FuncId) (args:List PV) (K:PV->Prop):Prop where
 h:(∃ args' r,LeL args args'/\zH f args' r/\nmIn [] r=true/\K r) \/
  (nb=true/\∃ (hn:Nat->Nat) (cargs:List PV) (kept:List (Nat×Obj')) (r:PV),LeL args (iJ hn cargs)/\Sound f cargs kept [] r kept []/\uA hn objs kept/\ndO (yC hn kept)=true/\ndO kept=true /\
   cK (bR kept) kept=true/\yX lv cargs=true/\lv r=true/\nmIn (bR kept) r=true/\K (ren hn r))
structure EqS (op:BinOp) (t:TypeId) (x y:Operand) (a b:List Fld) (K:PV->Prop):Prop where
 h:∃ r:Bool,(∀ w:World,(do eqGuard op t x y (.agg (oX a).toArray) (.agg (oX b).toArray);binOp op t (.agg (oX a).toArray) (.agg (oX b).toArray):Sem Value).run Pg w=.ok (.bool r) w)/\K (.bool (λ_=>r))
def Sr:PV->PV
 |.bool b=>.nbool b| v=>v
structure NilCmp (els:Unit->List (List D)) (K:PV->Prop):Prop where
 h:∀ b:Bool,(b=true->els ()=[])->K (.bool (λ_=>b))
structure NilLen (len:Unit->Nat) (K:PV->Prop):Prop where
 h:∀ b:Bool,(b=true->len ()=0)->K (.bool (λ_=>b))
structure StrRoom (a b:Unit->ByteArray):Prop where
 h:(a ()).size+(b ()).size<=9223372036854775807
def G3 (op:BinOp) (a b:Unit->ByteArray) (K:PV->Prop):Prop :=
 match op with
 |.add=>StrRoom a b/\K (.str (λ_=>a ()++b ()))| .eql=>K (.bool (λ_=>(a ()).toList == (b ()).toList))| .neq=>K (.nbool (λ_=>(a ()).toList == (b ()).toList))| _=>False
def Hh:PV->Option Bool
 |.nilp=>some true| .ptr _ _=>some false| _=>none
def FY (op:BinOp) (t:TypeId) (ox oy:Operand) (x y:PV) (K:PV->Prop):Prop :=
 match x,y with
 |.int k a,.int k' b=>Fz op k a k' b K| .str a,.str b=>G3 op a b K
 |.agg l,.agg m=>match ZK l,ZK m with
  |some a,some b=>EqS op t ox oy a b K| _,_=>False
 |x,y=>match ty t with
  |.sc .ff=>match op,BP x,BP y with
   |.eql,some a,some b=>K (.bool (λ_=>decide (a ()=b ())))| .neq,some a,some b=>K (.nbool (λ_=>decide (a ()=b ())))| _,_,_=>False
  |.sc .nilp=>match op,Hh x,Hh y with
   |.eql,some a,some b=>(match a || b with|true=>K (.bool (λ_=>a&&b))|false=>False)| .neq,some a,some b=>(match a || b with|true=>K (.nbool (λ_=>a&&b))|false=>False)| _,_,_=>False
  |_=>False
structure AtOk (k:Unit->Int) (len:Nat) (K:Nat->Prop):Prop where
 h:∃ j:Nat,k ()=(j:Int)/\j<len/\K j
structure FrOk (i len:Unit->Nat) (els:Unit->List (List D)):Prop where
 h:i ()+len ()<=(els ()).length
def fo0 (n:Nat) (o:Obj'):PV->Prop
 |.osl m s i len=>(match nqb m n with
  |true=>(match W8 o with
   |some (_,els)=>FrOk i len els| none=>True)
  |false=>True)
 |_=>True
def Vl (f:PV->Prop):List PV->Prop
 |[]=>True| v::r=>f v/\Vl f r
def fo1 (n:Nat) (o:Obj'):PV->Prop
 |.agg cs=>Vl (fo0 n o) cs| .tup cs=>Vl (fo0 n o) cs| .fn _ cs=>Vl (fo0 n o) cs| v=>fo0 n o v
def fo (n:Nat) (o:Obj'):PV->Prop
 |.agg cs=>Vl (fo1 n o) cs| .tup cs=>Vl (fo1 n o) cs| .fn _ cs=>Vl (fo1 n o) cs| v=>fo0 n o v
def TX (f:PV->Bool):List PV->Bool
 |[]=>false| v::r=>(match f v with|true=>true|false=>TX f r)
def Ft (objs:List (Nat×Obj')):PV->Bool
 |.osl m _ _ _=>(match yK objs m with
  |some (.lent _ _)=>true| _=>false)
 |_=>false
def lnt (objs:List (Nat×Obj')):PV->Bool
 |.agg cs=>TX (Ft objs) cs| v=>Ft objs v
structure LdK (objs:List (Nat×Obj')) (v:PV) (K:PV->Prop):Prop where
 h:K v\/∃ n s els,yK objs n=some (.lent s els)/\fo n (.lent s els) v/\K (frz n (.lent s els) v)
def ldV (objs:List (Nat×Obj')) (v:PV) (K:PV->Prop):Prop :=
 match lnt objs v with
 |true=>LdK objs v K| false=>K v
structure AtN (i:Unit->Nat) (len:Nat) (K:Nat->Prop):Prop where
 h:i ()<len/\K (i ())
structure HoleK (hs:List (PV×(Unit->Nat))) (i:Unit->Nat) (K:PV->Prop):Prop where
 h:∃ v k,(v,k)∈hs/\k ()=i ()/\K v
structure StoH (hs:List (PV×(Unit->Nat))) (i:Unit->Nat) (v:PV) (K:List (PV×(Unit->Nat))->Prop):Prop where
 h:∃ hs1 v0 k hs2,hs=hs1++(v0,k)::hs2/\k ()=i ()/\(∀ v' k',(v',k')∈hs1++hs2->k' ()≠i ())/\K (hs1++(v,k)::hs2)
structure FocOk (i:Unit->Nat) (rows:Unit->List (List (List D))) (hs:List (PV×(Unit->Nat))):Prop where
 h:i ()<(rows ()).length/\∀ v k,(v,k)∈hs->k ()≠i ()
def sop (objs:List (Nat×Obj')) (op:Op) (e:Operand->PV) (K:PV->Prop):Prop :=
 match op with
 |.move x=>K (e x)| .assign x=>K (e x)| .pick c a b=>brV (e c) (λ_=>K (e a)) (λ_=>K (e b))
 |.build t parts=>match ty t with
  |.st _ fs z=>match Wg fs (vA e parts.toList) z with
   |some cs=>K (.agg cs)| none=>False
  |.arr _ n _ z=>match V9 n (vA e parts.toList) z with
   |some cs=>K (.agg cs)| none=>False
  |_=>False
 |.buildSlice t len parts=>match ty t with
  |.sli n _ z=>match sS n (vA e parts.toList) (rO z len) with
   |some els=>(match nle (len*n) 1000&&m5 els with|true=>K (AR els)|false=>False)| none=>False
  |_=>False
 |.load t a=>match e a with
  |.dptr cs off=>rdK (ty t) cs off K
  |.ptr n off=>match yK objs n with
   |some (.box cs)=>rdK (ty t) cs off (λv=>ldV objs v K)| _=>False
  |.aptr n s i off=>match yK objs n with
   |some (.arr s' els)=>(match nqb s s' with|true=>ElOk s els i (λc=>rdK (ty t) c off K)|false=>False)| some (.mat _ _ hs)=>(match nqb s 1&&nqb off 0 with|true=>HoleK hs i (λv=>rdK (ty t) [v] 0 K)|false=>False)| some (.box cs)=>(match nqb s 1&&nqb off 0 with|true=>AtN i cs.length (λj=>rdK (ty t) cs j K)|false=>False)| _=>False
  |_=>False
 |.binOp op t x y _=>FY op t x y (e x) (e y) K
 |.unOp op _ x=>match op,e x with
  |.not,.tt=>K .ff| .not,.ff=>K .tt| .not,.bool b=>K (.nbool b)| .not,.nbool b=>K (.bool b)| .neg,.int k n=>arK k (λ_=>0-n ()) K| _,_=>False
 |.convert src dst x=>(match (ty src).isNo with
  |true=>False
  |false=>(match ty dst,e x with
   |.sc (.int k _),.int _ n=>K (.int k (λ_=>nx k (n ())))| _,_=>False))
 |.fieldAddr t x i=>match ty t with
  |.st _ fs _=>match fs[i]? with
   |some (off,_,_)=>match e x with
    |.ptr n o=>K (.ptr n (o+off))| .aptr n s j o=>K (.aptr n s j (o+off))| .dptr cs o=>K (.dptr cs (o+off))| _=>False
   |none=>False
  |_=>False
 |.field t x i=>match ty t with
  |.st _ fs _=>match fs[i]? with
   |some (off,sz,ag)=>match ag with
    |true=>match e x with
     |.agg cs=>(match nle (off+sz) cs.length with|true=>K (.agg ((cs.drop off).take sz))|false=>False)| _=>False
    |false=>match e x with
     |.agg cs=>(match nqb sz 1&&nlt off cs.length with|true=>K (cs.getD off .any)|false=>False)| _=>False
   |none=>False
  |_=>False
 |.indexAddr t x i=>match ty t,e x,e i with
  |.sli n _ _,.sl els,.int _ k=>IdxOk n els k (λc=>K (.dptr c 0))| .sli n _ _,.osl m s o len,.int _ k=>(match nqb n s with|true=>Rng k len/\K (.aptr m s (λ_=>o ()+(k ()).toNat) 0)|false=>False)| .arr len n _ _,.ptr m o,.int _ k=>AtOk k len (λj=>K (.ptr m (o+j*n)))| _,_,_=>False
 |.index t x i=>match ty t,e x,e i with
  |.arr len 1 false _,.agg cs,.int _ k=>(match nqb len cs.length with|true=>AtOk k len (λj=>K (cs.getD j .any))|false=>False)| _,_,_=>False
 |.extract x i=>match e x with
  |.tup vs=>(match nlt i vs.length with|true=>K (vs.getD i .any)|false=>False)| _=>False
 |.slice t x lo hi none=>match ty t,e x with
  |.sli n _ _,.sl els=>match iM e (λ_=>0) lo,iM e (λ_=>((els ()).length:Nat)) hi with
   |some l,some h=>SlOk l h (λ_=>(els ()).length)/\Wid n els/\K (.sl (λ_=>((els ()).take (h ()).toNat).drop (l ()).toNat))| _,_=>False
  |.sli n _ _,.osl m s o len=>match iM e (λ_=>0) lo,iM e (λ_=>(len ():Nat)) hi with
   |some l,some h=>(match nqb n s with|true=>SlOk l h len/\SlT l h (K (.osl m s (λ_=>o ()+(l ()).toNat) (λ_=>(h ()).toNat-(l ()).toNat))) (K (.sl (λ_=>[])))|false=>False)| _,_=>False
  |.sli _ _ _,.nil=>match iM e (λ_=>0) lo,iM e (λ_=>0) hi with
   |some l,some h=>SlOk l h (λ_=>0)/\K .nil| _,_=>False
  |_,_=>False
 |.slice t x none (some y) (some z)=>match ty t,e x,e y,e z with
  |.sli n _ _,.osl m s o len,.int _ h,.int _ k=>(match nqb n s with|true=>SlM h k len/\K (.osl m s o (λ_=>(h ()).toNat))|false=>False)| _,_,_,_=>False
 |.nilCheck x=>match e x with
  |.ptr n o=>K (.ptr n o)| .aptr n s i o=>K (.aptr n s i o)| .dptr c o=>K (.dptr c o)| _=>False
 |.makeFunc (.func f) first caps=>match first.toList with
  |[]=>K (.fn f (evs e caps.toList))| _=>False
 |.call c=>match c.callee with
  |.builtin .len=>match c.args.toList,c.argTypes.toList with
   |[x],[t]=>Te (ty t) (e x) K| _,_=>False
  |.builtin .max=>match c.args.toList with
   |[x,y]=>match e x,e y with
    |.int .i64 a,.int .i64 b=>K (.int .i64 (λ_=>imax (a ()) (b ())))| _,_=>False
   |_=>False
  |.builtin .min=>match c.args.toList with
   |[x,y]=>match e x,e y with
    |.int .i64 a,.int .i64 b=>K (.int .i64 (λ_=>imin (a ()) (b ())))| _,_=>False
   |_=>False
  |.value f=>match e f with
   |.fn g caps=>CallS false [] g (evs e c.args.toList++caps) K| _=>False
  |_=>False
 |_=>False
def l4:Ty->Bool
 |.sli _ _ _=>true| _=>false
def jN:PV->Bool
 |.nil=>true| .emp=>true| _=>false
def Jl (n b:Nat) (base x:PV) (K:PV->Prop):Prop :=
 match x with
 |.sl xs=>Wid n xs/\Room (λ_=>((xs ()).length:Nat)) b/\K (.sl xs)| .nil=>K base| _=>False
def l5 (op:Op):Bool :=
 match op with
 |.call c=>(match c.callee with
  |.builtin .append=>true| _=>false)
 |_=>false
def BZ (op:Op) (e:Operand->PV) (K:PV->Prop):Prop :=
 match op with
 |.call c=>(match c.args.toList,c.argTypes.toList with
  |[b,x],[t,tx]=>(match l4 (ty tx) with
   |true=>(match ty t,jN (e b) with
    |.sli n bb _,true=>Jl n bb (e b) (e x) K| _,_=>False)
   |false=>False)
  |_,_=>False)
 |_=>False
def Uj (op:Op):Option Call :=
 match op with
 |.call c=>(match c.callee with
  |.value _=>some c| _=>none)
 |_=>none
def iF (objs:List (Nat×Obj')) (op:Op) (e:Operand->PV) (K:PV->Prop):Prop :=
 match Uj op with
 |none=>sop objs op e K
 |some c=>(match c.callee with
  |.value f=>(match e f with
   |.fn g caps=>CallS true objs g (evs e c.args.toList++caps) K| _=>False)
  |_=>False)
def gE (nb:Bool) (objs:List (Nat×Obj')) (op:Op) (e:Operand->PV) (K:PV->Prop):Prop :=
 match l5 op with
 |true=>BZ op e K| false=>(match nb with|true=>iF objs op e K|false=>sop objs op e K)
def gdV (want:Bool) (v:PV) (A B:Unit->Prop):Prop :=
 match v with
 |.tup []=>B ()| v=>(match want with|true=>brV v A B|false=>brV v B A)
def kJ (all:List Oper) (o:Oper) (τ:Nat->PV) (A B:Unit->Prop):Prop :=
 match o.guard with
 |none=>A ()
 |some (j,want)=>match all[j]? with
  |some oj=>match oj.dst with
   |some d=>gdV want (τ d) A B| none=>False
  |none=>False
def isG (all:List Oper) (o:Oper):Bool :=
 match o.dst with
 |none=>false
 |some d=>all.any λo'=>match o'.guard with
  |none=>false
  |some (j,_)=>match all[j]? with
   |some oj=>match oj.dst with
    |some d'=>nqb d d'| none=>false
   |none=>false
def lS (all:List Oper) (o:Oper) (ps:PS) (K:PS->Prop):Prop :=
 (match isG all o with
  |true=>(match o.dst with
  |some d=>match zD ps.tmps d with
   |.bool b=>Br b (λ_=>K ⟨vQ ps.tmps d .tt,ps.objs⟩) (λ_=>K ⟨vQ ps.tmps d .ff,ps.objs⟩)| .nbool b=>Br b (λ_=>K ⟨vQ ps.tmps d .ff,ps.objs⟩) (λ_=>K ⟨vQ ps.tmps d .tt,ps.objs⟩)| _=>K ps
  |none=>K ps)
  |false=>K ps)
def iE (nb:Bool) (all:List Oper):List Oper->PS->(PS->Prop)->Prop
 |[],ps,K=>K ps| o::r,ps,K=>kJ all o (zD ps.tmps) (λ_=>gE nb ps.objs o.op (ev (zD ps.tmps)) (λv=>lS all o (put ps o.dst v) (λps'=>iE nb all r ps' K))) (λ_=>iE nb all r (put ps o.dst (.tup [])) K)
structure LeS (a b:PV):Prop where
 h:Le a b
structure ElsEq (e e':Unit->List (List D)):Prop where
 h:e ()=e' ()
def jC (f:PV->PV->Prop):List PV->List PV->Prop
 |[],[]=>True| a::r,b::q=>f a b/\jC f r q| _,_=>False
def KA:PV->PV->Prop
 |.agg a,.agg b=>jC LeS a b| .tup a,.tup b=>jC LeS a b| a,b=>LeS a b
def les:PV->PV->Prop
 |.agg a,.agg b=>jC KA a b| .tup a,.tup b=>jC KA a b| .fn f a,.fn g b=>nqb f g=true/\jC KA a b| a,b=>LeS a b
structure RowsEq (e e':Unit->List (List (List D))):Prop where
 h:e ()=e' ()
def hLe:List (PV×(Unit->Nat))->List (PV×(Unit->Nat))->Prop
 |[],[]=>True| (v,k)::r,(v',k')::q=>(LeS v v'/\LeS (.int .i64 (λ_=>(k ():Int))) (.int .i64 (λ_=>(k' ():Int))))/\hLe r q| _,_=>False
def W5:Obj'->Obj'->Prop
 |.box a,.box b=>jC les a b| .arr s e,.arr s' e'=>nqb s s'=true/\ElsEq e e'| .log s e,.log s' e'=>nqb s s'=true/\ElsEq e e'| .lent s e,.lent s' e'=>nqb s s'=true/\ElsEq e e'| .lent s e,.log s' e'=>nqb s s'=true/\ElsEq e e'| .mat s r h,.mat s' r' h'=>nqb s s'=true/\RowsEq r r'/\hLe h h'| _,_=>False
def leT (src:List (Nat×PV)):List (Nat×PV)->Prop
 |[]=>True| (t,v)::r=>les (zD src t) v/\leT src r
def leO (src:List (Nat×Obj')):List (Nat×Obj')->Prop
 |[]=>True
 |(n,o)::r=>(match yK src n with
  |some o'=>W5 o' o| none=>False)/\leO src r
def tG:Obj'->Bool
 |.box cs=>yX iD cs| .arr _ _=>true| .log _ _=>false| .lent _ _=>false| .mat _ _ []=>true| .mat _ _ (_::_)=>false
def YN:Obj'->Bool
 |.box cs=>yX iD cs| .mat _ _ _=>false| _=>true
def foT (n:Nat) (o:Obj'):List (Nat×PV)->Prop
 |[]=>True| (_,v)::r=>fo n o v/\foT n o r
def foH (n:Nat) (o:Obj'):List (PV×(Unit->Nat))->Prop
 |[]=>True| (v,_)::r=>fo n o v/\foH n o r
def foO (n:Nat) (o:Obj'):List (Nat×Obj')->Prop
 |[]=>True| (_,.box cs)::r=>Vl (fo n o) cs/\foO n o r| (_,.arr _ _)::r=>foO n o r| (_,.log _ _)::r=>foO n o r| (_,.lent _ _)::r=>foO n o r| (_,.mat _ _ hs)::r=>foH n o hs/\foO n o r
def KT (n:Nat) (o:Obj') (ps:PS):PS:=⟨xW (frz n o) ps.tmps,y6 (frz n o) (xK ps.objs n)⟩
inductive Wk:PS->PS->Prop
 |refl (ps):Wk ps ps
 |le {ps ps'} (ht:leT ps.tmps ps'.tmps) (ho:leO ps.objs ps'.objs) (hn:ndO ps'.objs=true):Wk ps ps'
 |frz {ps} (n:Nat) {o} (ho:yK ps.objs n=some o) (hc:YN o=true) (hT:foT n o ps.tmps) (hO:foO n o ps.objs):Wk ps (KT n o ps)
 |lend {ps} (n t:Nat) {o s els} (ho:yK ps.objs n=some o) (hr:W8 o=some (s,els)) (hf:fo n o (zD ps.tmps t)):Wk ps ⟨vQ ps.tmps t (frz n o (zD ps.tmps t)),setO ps.objs n (.log s els)⟩
 |pub {ps} (n:Nat) {o s els} (ho:yK ps.objs n=some o) (hr:W8 o=some (s,els)):Wk ps ⟨ps.tmps,setO ps.objs n (.lent s els)⟩
 |fresh {ps} (n s:Nat) (hf:yO n ps=true):Wk ps ⟨ps.tmps,ps.objs++[(n,.arr s (λ_=>[]))]⟩
 |drop {ps} (n:Nat):Wk ps ⟨xW (scr n) ps.tmps,y6 (scr n) (xK ps.objs n)⟩
 |adoptT {ps} (n s t:Nat) (hf:yO n ps=true) (ht:jN (zD ps.tmps t)=true):Wk ps ⟨vQ ps.tmps t (.osl n s (λ_=>0) (λ_=>0)),ps.objs++[(n,.arr s (λ_=>[]))]⟩
 |adoptB {ps} (n s m j:Nat) {cs} (hf:yO n ps=true) (ho:yK ps.objs m=some (.box cs)) (hj:jN (cs.getD j .any)=true) :
   Wk ps ⟨ps.tmps,setO ps.objs m (.box (cs.set j (.osl n s (λ_=>0) (λ_=>0))))++[(n,.arr s (λ_=>[]))]⟩
 |adoptM {ps} (n s m j:Nat) {cs} (hf:yO n ps=true) (ho:yK ps.objs m=some (.box cs)) (hj:cs[j]?=some .nil) :
   Wk ps ⟨ps.tmps,setO ps.objs m (.box (cs.set j (.osl n 1 (λ_=>0) (λ_=>0))))++[(n,.mat s (λ_=>[]) [])]⟩
 |focus {ps} (n k:Nat) (i:Unit->Nat) {s rows hs} (ho:yK ps.objs n=some (.mat s rows hs)) (hf:yO k ps=true) (hi:FocOk i rows hs) :
   Wk ps ⟨ps.tmps,setO ps.objs n (.mat s rows ((.osl k s (λ_=>0) (λ_=>((rows ()).getD (i ()) []).length),i)::hs))++[(k,.arr s (λ_=>(rows ()).getD (i ()) []))]⟩
 |unfocus {ps} (n k:Nat) (hs1 hs2:List (PV×(Unit->Nat))) {s rows i o len els} (ho:yK ps.objs n=some (.mat s rows (hs1++(.osl k s o len,i)::hs2))) (hk:yK ps.objs k=some (.arr s els)) (hne:nqb n k=false) (h0:o ()=0/\len ()=(els ()).length) :
   Wk ps ⟨xW (scr k) ps.tmps,setO (y6 (scr k) (xK ps.objs k)) n (.mat s (λ_=>(rows ()).set (i ()) (els ())) (gG (scr k) (hs1++hs2)))⟩
 |trans {a b c} (h:Wk a b) (k:Wk b c):Wk a c
def rQ (h:Nat->Nat) (eaten:List (Nat×Obj')) (ps:PS):PS :=
 ⟨xW (bG ((yC h eaten).map Prod.fst)) ps.tmps,y6 (bG ((yC h eaten).map Prod.fst)) (gJ ((yC h eaten).map Prod.fst) ps.objs)⟩
def aK (h:Nat->Nat) (ps:PS):List (Nat×Obj')->Bool
 |[]=>true| (n,_)::r=>yO (h n) ps&&aK h ps r
def aD (h:Nat->Nat) (eaten kept' made:List (Nat×Obj')) (ps:PS):PS :=
 ⟨(rQ h eaten ps).tmps,rB h (rQ h eaten ps).objs kept'++yC h made⟩
structure CallOk (g : Operand) (as_ : List Operand) (dst : Option Nat) (ps : PS) (K : PS → Prop) : Prop where
  h : ∃ ps', Wk ps ps' ∧ ∃ f caps, ev (zD ps'.tmps) g = .fn f caps ∧
    ((∃ args' r, LeL (evs (ev (zD ps'.tmps)) as_ ++ caps) args' ∧ zH f args' r ∧ nmIn [] r = true ∧ K (put ps' dst r)) ∨
     (∃ (hn : Nat → Nat) (cargs : List PV) (kept eaten : List (Nat × Obj')) (r : PV) (kept' made : List (Nat × Obj')),
        LeL (evs (ev (zD ps'.tmps)) as_ ++ caps) (iJ hn cargs) ∧ Sound f cargs kept eaten r kept' made ∧
        uA hn ps'.objs (kept ++ eaten) ∧ ndO (yC hn (kept ++ eaten)) = true ∧ ndO (kept ++ eaten) = true ∧
        cK (bR (kept' ++ made)) (kept' ++ made) = true ∧ ndO (yC hn made) = true ∧ aK hn (rQ hn eaten ps') made = true ∧
        yX lv cargs = true ∧ lv r = true ∧ nmIn (bR (kept' ++ made)) r = true ∧
        K (put (aD hn eaten kept' made ps') dst (ren hn r))))
def fQ (lg:Bool) (s:Nat) (els:Unit->List (List D)):Obj' :=
 match lg with
 |true=>.log s els| false=>.arr s els
structure AppOk (t : TypeId) (base x : Operand) (dst : Option Nat) (ps : PS) (K : PS → Prop) : Prop where
  h : ∃ ps' d nm n b z xs, Wk ps ps' ∧ dst = some d ∧ ty t = .sli n b z ∧
    ((ev (zD ps'.tmps) x = .sl xs ∨ (ev (zD ps'.tmps) x = .nil ∧ xs () = [])) ∨ ∃ (lg' : Bool) (m' : Nat) (o' len' : Unit → Nat) (ys : Unit → List (List D)), ev (zD ps'.tmps) x = .osl m' n o' len' ∧ yK ps'.objs m' = some (fQ lg' n ys) ∧ o' () + len' () ≤ (ys ()).length ∧ xs () = ((ys ()).drop (o' ())).take (len' ())) ∧ Wid n xs ∧
    ((jN (ev (zD ps'.tmps) base) = true ∧ Room (fun _ => ((xs ()).length : Nat)) b ∧ yO nm ps' = true ∧ K ⟨vQ ps'.tmps d (.osl nm n (fun _ => 0) (fun _ => (xs ()).length)), ps'.objs ++ [(nm, .arr n xs)]⟩) ∨
     (∃ (lg : Bool) (m : Nat) (o len : Unit → Nat) (els els0 : Unit → List (List D)), ev (zD ps'.tmps) base = .osl m n o len ∧ yK ps'.objs m = some (fQ lg n els0) ∧ o () = 0 ∧ len () = (els ()).length ∧ els () = (els0 ()).take (len ()) ∧ (lg = true → els0 () = els ()) ∧ Room (fun _ => (((els ()).length + (xs ()).length : Nat) : Int)) b ∧
       yO nm ⟨xW (scr m) ps'.tmps, y6 (scr m) (xK ps'.objs m)⟩ = true ∧
       K ⟨vQ (xW (scr m) ps'.tmps) d (.osl nm n (fun _ => 0) (fun _ => (els ()).length + (xs ()).length)), y6 (scr m) (xK ps'.objs m) ++ [(nm, fQ lg n (fun _ => els () ++ xs ()))]⟩))
structure NeR (rows:Unit->List (List (List D))):Prop where
 h:0<(rows ()).length
structure AppM (t:TypeId) (base x:Operand) (dst:Option Nat) (ps:PS) (K:PS->Prop):Prop where
 h:∃ ps' d nm b z m m' s o len rows o' len' rows',Wk ps ps'/\dst=some d/\ty t=.sli 1 b z /\
  ev (zD ps'.tmps) base=.osl m 1 o len/\yK ps'.objs m=some (.mat s rows [])/\o ()=0/\len ()=(rows ()).length /\
  ev (zD ps'.tmps) x=.osl m' 1 o' len'/\yK ps'.objs m'=some (.mat s rows' [])/\o' ()=0/\len' ()=(rows' ()).length/\nqb m m'=false/\NeR rows' /\
  Room (λ_=>(((rows ()).length+(rows' ()).length:Nat):Int)) b /\
  yO nm ⟨xW (scr m') (xW (scr m) ps'.tmps),y6 (scr m') (xK (y6 (scr m) (xK ps'.objs m)) m')⟩=true /\
  K ⟨vQ (xW (scr m') (xW (scr m) ps'.tmps)) d (.osl nm 1 (λ_=>0) (λ_=>(rows ()).length+(rows' ()).length)),y6 (scr m') (xK (y6 (scr m) (xK ps'.objs m)) m')++[(nm,.mat s (λ_=>rows ()++rows' ()) [])]⟩
structure AppK (t:TypeId) (base x:Operand) (dst:Option Nat) (ps:PS) (K:PS->Prop):Prop where
 h:AppOk t base x dst ps K\/AppM t base x dst ps K
def P7:PV->Bool
 |.osl _ _ _ _=>true| _=>false
def UR:List (Nat×Operand)->Bool
 |[]=>true| _=>false
def UO:Option (List (List PV))->Option (Nat×Nat×(Unit->Nat)×(Unit->Nat))
 |some [[.osl k s o len]]=>some (k,s,o,len)| _=>none
def Nc:List PV->Bool
 |[.nil,.ff,.nil,.nil]=>true| [.int _ _,.int _ _,.int _ _,.int _ _,.ff,.nil,.nil]=>true| _=>false
structure BldK (n:Nat) (els:List (List PV)) (d:Nat) (ps:PS) (K:PS->Prop):Prop where
 h:K (put ps (some d) (AR els))\/(yO d ps=true/\K ⟨vQ ps.tmps d (.osl d n (λ_=>0) (λ_=>(zI els).length)),ps.objs++[(d,.arr n (λ_=>zI els))]⟩)
def Nd:List PV->Bool
 |[]=>true| .aptr _ _ _ _::r=>Nd r| _=>false
def Jm:List (List PV)->Option (List PV)
 |[]=>some []| [v]::r=>(match Jm r with|some l=>some (v::l)|none=>none)| _=>none
def apK (z:List PV) (x:Option (List (List PV))):Option (List PV) :=
 match z with
 |[.nilp]=>(match x with
  |some els=>(match Jm els with
   |some cs=>(match Nd cs with|true=>some cs|false=>none)| none=>none)
  |none=>none)
 |_=>none
def ZC (d:Nat) (cs:List PV) (ps:PS) (K:PS->Prop):Prop :=
 (match yO d ps with|true=>K ⟨vQ ps.tmps d (.ptr d 0),ps.objs++[(d,.box cs)]⟩|false=>False)
def M9 (objs:List (Nat×Obj')):PV->Bool
 |.aptr n _ _ _=>(match yK objs n with
  |some (.mat _ _ _)=>true| _=>false)
 |_=>false
structure LoadM (t:TypeId) (a:Operand) (dst:Option Nat) (ps:PS) (K:PS->Prop):Prop where
 h:∃ ps',Wk ps ps'/\sop ps'.objs (.load t a) (ev (zD ps'.tmps)) (λv=>K (put ps' dst v))
def dX (o : Oper) (ps : PS) (K : PS → Prop) : Prop :=
  match o.op with
  | .load t a => (match M9 ps.objs (ev (zD ps.tmps) a) with
    | true => LoadM t a o.dst ps K
    | false => sop ps.objs o.op (ev (zD ps.tmps)) (fun v => K (put ps o.dst v)))
  | .alloc t => match o.dst with
    | some d => (match (ty t).isNo with | true => False | false => ZC d (ty t).zero ps K)
    | none => False
  | .box t x => match o.dst with
    | some d => (match gU (ev (zD ps.tmps) x) with | true => ZC d (yW (ev (zD ps.tmps) x)) ps K | false => False)
    | none => False
  | .store t a v => match ev (zD ps.tmps) a with
    | .ptr n off => match yK ps.objs n with
      | some (.box cs) => (match nqb (yW (ev (zD ps.tmps) v)).length (ty t).cells && nle (off + (ty t).cells) cs.length && nlt 0 (ty t).cells && yX tE (yW (ev (zD ps.tmps) v)) with | true => K (put ⟨ps.tmps, setO ps.objs n (.box (uV cs off (yW (ev (zD ps.tmps) v))))⟩ o.dst .any) | false => False)
      | _ => False
    | .aptr n s i off => match yK ps.objs n with
      | some (.arr s' els) => (match nqb s s' && nqb (yW (ev (zD ps.tmps) v)).length (ty t).cells && nle (off + (ty t).cells) s && nlt 0 (ty t).cells && yX o8 (yW (ev (zD ps.tmps) v)) with | true => ElOk s els i (fun c => K (put ⟨ps.tmps, setO ps.objs n (.arr s (fun _ => (els ()).set (i ()) (y7 (uV c off (yW (ev (zD ps.tmps) v))))))⟩ o.dst .any)) | false => False)
      | some (.mat s' rows hs) => (match nqb s 1 && nqb off 0 && nqb (ty t).cells 1 && P7 (ev (zD ps.tmps) v) with | true => StoH hs i (ev (zD ps.tmps) v) (fun hs' => K (put ⟨ps.tmps, setO ps.objs n (.mat s' rows hs')⟩ o.dst .any)) | false => False)
      | _ => False
    | _ => False
  | .buildSlice t len parts => match o.dst, ty t with
    | some d, .sli n _ z => (match UO (sS n (vA (ev (zD ps.tmps)) parts.toList) (rO z len)) with
      | some (k, s, o', len') => (match nqb n 1 && nqb len 1 && !(nqb k d) && yO d ps with | true => K ⟨vQ ps.tmps d (.osl d 1 (fun _ => 0) (fun _ => 1)), ps.objs ++ [(d, .mat s (fun _ => [[]]) [(.osl k s o' len', fun _ => 0)])]⟩ | false => False)
      | none => (match nqb len 0 && UR parts.toList with
        | true => (match yO d ps with | true => K ⟨vQ ps.tmps d (.osl d n (fun _ => 0) (fun _ => 0)), ps.objs ++ [(d, .arr n (fun _ => []))]⟩ | false => False)
        | false => (match apK z (sS n (vA (ev (zD ps.tmps)) parts.toList) (rO z len)) with
         | some cs => (match nqb cs.length len && nqb n 1 && nle len 1000 && yO d ps && wL d cs with | true => K ⟨vQ ps.tmps d (.osl d 1 (fun _ => 0) (fun _ => len)), ps.objs ++ [(d, .box cs)]⟩ | false => False)
         | none => (match Nc z || KP (d + 500000) ps.objs with
          | true => (match sS n (vA (ev (zD ps.tmps)) parts.toList) (rO z len) with
            | some els => (match nle (len * n) 1000 && m5 els with | true => BldK n els d ps K | false => False)
            | none => False)
          | false => sop ps.objs o.op (ev (zD ps.tmps)) (fun v => K (put ps o.dst v))))))
    | _, _ => sop ps.objs o.op (ev (zD ps.tmps)) (fun v => K (put ps o.dst v))
  | .makeSlice t l c => match ty t, o.dst, ev (zD ps.tmps) l, ev (zD ps.tmps) c with
    | .sli n b z, some d, .int .i64 x, .int .i64 y => Room y b ∧ MkOk x y ∧ ((match yO d ps && yX o8 z with | true => K ⟨vQ ps.tmps d (.osl d n (fun _ => 0) (fun _ => (x ()).toNat)), ps.objs ++ [(d, .arr n (fun _ => List.replicate (x ()).toNat (y7 z)))]⟩ | false => False))
    | _, _, _, _ => False
  | .call c => match c.callee with
    | .value g => CallOk g c.args.toList o.dst ps K
    | .builtin .append => match c.args.toList, c.argTypes.toList with
      | [b, x], [t, tx] => (match l4 (ty tx) with | true => AppK t b x o.dst ps K | false => False)
      | _, _ => False
    | .builtin _ => sop ps.objs o.op (ev (zD ps.tmps)) (fun v => K (put ps o.dst v))
    | _ => False
  | .binOp .eql t x (.const (.slice none 0 0)) _ => match ty t, ev (zD ps.tmps) x with
    | .sli _ _ _, .sl els => NilCmp els (fun v => K (put ps o.dst v))
    | .sli _ _ _, .osl _ _ _ len => NilLen len (fun v => K (put ps o.dst v))
    | .sli _ _ _, .nil => K (put ps o.dst (.bool (fun _ => true)))
    | _, _ => False
  | .binOp .neq t x (.const (.slice none 0 0)) _ => match ty t, ev (zD ps.tmps) x with
    | .sli _ _ _, .sl els => NilCmp els (fun v => K (put ps o.dst (Sr v)))
    | .sli _ _ _, .osl _ _ _ len => NilLen len (fun v => K (put ps o.dst (Sr v)))
    | .sli _ _ _, .nil => K (put ps o.dst (.nbool (fun _ => true)))
    | _, _ => False
  | op => sop ps.objs op (ev (zD ps.tmps)) (fun v => K (put ps o.dst v))
def jB (all:List Oper):List Oper->PS->(PS->Prop)->Prop
 |[],ps,K=>K ps| o::r,ps,K=>kJ all o (zD ps.tmps) (λ_=>dX o ps (λps'=>lS all o ps' (λps''=>jB all r ps'' K))) (λ_=>jB all r (put ps o.dst (.tup [])) K)
def dQ:List Oper->Bool
 |[]=>true
 |o::r=>(match o.dst with
  |none=>true| some d=>r.all λx=>!(x.dst == some d))&&dQ r
def qR (ops : List Oper) (o : Oper) : List Nat :=
  (o.op.operands.toList.filterMap fun | .tmp t => some t | _ => none) ++
  (match o.guard with
   | some (g, _) => ((ops[g]?).bind (·.dst)).toList
   | none => [])
def i4 (acc:List Nat) (o:Oper):Nat:=o.after.toList.foldl (λs e=>if Region.binds .any e then s ||| (2^e.on ||| acc.getD e.on 0) else s) 0
def B5:List Oper->List Nat->List Nat
 |[],acc=>acc| o::r,acc=>B5 r (acc++[i4 acc o])
def anc (ops:List Oper):List Nat:=B5 ops []
def fG (ops:List Oper) (k:Nat):Bool :=
 let an:=anc ops
 dQ (ops.take k) &&
 (List.range k).all (λi=>match ops[i]? with
  |some o=>(qR ops o).all λt=>(List.range k).all λj=>match ops[j]? with
   |some oj=>!(oj.dst == some t) || ((decide (j<i)&&(an.getD i 0).testBit j) || (decide (i<j)&&(an.getD j 0).testBit i))| none=>true
  |none=>false) &&
 (List.range ops.length).all (λi=>match ops[i]? with
  |some o=>o.after.toList.all λe=>!(Region.binds .any e) || decide (e.on<i)| none=>false) &&
 (List.range ops.length).all (λi=>decide (i<k) || (List.range i).all λj=>(an.getD i 0).testBit j)
def vD (o:Oper):Option (Nat×Obj') :=
 match o.guard with
 |some _=>none
 |none=>match o.op with
  |.alloc t=>(match (ty t).isNo with
   |true=>none
   |false=>match o.dst with
    |some d=>some (d,.box (ty t).zero)| none=>none)
  |_=>none
def yR:List Oper->List (Nat×Obj')
 |[]=>[]
 |o::r=>match vD o with
  |some x=>x::yR r| none=>yR r
def rH (all:List Oper):List Oper->PS->(PS->Prop)->Prop
 |[],ps,K=>K ps
 |o::r,ps,K=>match vD o with
  |some (d,_)=>rH all r (put ps (some d) (.ptr d 0)) K| none=>kJ all o (zD ps.tmps) (λ_=>gE true ps.objs o.op (ev (zD ps.tmps)) (λv=>lS all o (put ps o.dst v) (λps'=>rH all r ps' K))) (λ_=>rH all r (put ps o.dst (.tup [])) K)
def mfT (n:Nat):List (Nat×PV)->Bool
 |[]=>true
 |(t,v)::r=>(match t == n with
  |true=>true| false=>xN n v)&&mfT n r
def UY (ps:PS):List (Nat×Obj')->Bool
 |[]=>true| (n,_)::r=>yO n ps&&UY ps r
def VO (T:List (Nat×PV)):List (Nat×Obj')->Bool
 |[]=>true| (n,_)::r=>mfT n T&&VO T r
def VP (ms:List (Nat×Obj')) (T:List (Nat×PV)) (P:Prop):Prop :=
 match ms with
 |[]=>P| _::_=>VO T ms=true/\P
def GI (o:Oper):Bool :=
 match o.op with
 |.load _ _=>false| _=>true
def QW (ops:List Oper) (k i0:Nat) (us:List Nat):Bool :=
 nlt i0 k&&(match ops[i0]? with
  |some o=>(match o.guard,o.dst,o.op with
   |none,none,.store _ _ _=>true| _,_,_=>false)
  |none=>false) &&
 (List.range k).all (λi=>nqb i i0 || (match ops[i]? with
  |some o=>GI o || (nlt i i0&&((anc ops).getD i0 0).testBit i) || (nlt i0 i&&((anc ops).getD i 0).testBit i0) || (nlt i i0&&yM i us)| none=>false))
def GW (all:List Oper) (us:List Nat) (n:Nat):List Oper->Nat->PS->(PS->Prop)->Prop
 |[],_,ps,K=>K ps| o::r,i,ps,K=>kJ all o (zD ps.tmps) (λ_=>gE false (match yM i us with|true=>xK ps.objs n|false=>ps.objs) o.op (ev (zD ps.tmps)) (λv=>lS all o (put ps o.dst v) (λps'=>GW all us n r (i+1) ps' K))) (λ_=>GW all us n r (i+1) (put ps o.dst (.tup [])) K)
def Pi (us:List Nat) (n:Nat) (o:Oper) (ps:PS):Bool :=
 match us with
 |[]=>true
 |_=>(match o.op with
  |.store _ a _=>(match ev (zD ps.tmps) a with
   |.ptr m _=>nqb m n| .aptr m _ _ _=>nqb m n| _=>false)
  |_=>false)
def QV (ops:List Oper) (k i0 n:Nat) (us:List Nat) (ps:PS) (K:PS->Prop):Prop :=
 GW ops us n (ops.take i0) 0 ps (λp1=>match ops[i0]? with
  |some o=>Pi us n o p1=true/\dX o p1 (λp2=>iE false ops ((ops.take k).drop (i0+1)) p2 (λp3=>jB ops (ops.drop k) p3 K))| none=>False)
structure Eff1 (g:Operand) (as_:List Operand) (T:List (Nat×PV)) (o:Option Obj') (n:Nat) (K:PV->Obj'->Prop):Prop where
 h:∃ (f:FuncId) (caps:List PV) (hn:Nat->Nat) (cargs:List PV) (m:Nat) (x:Obj') (r:PV) (x':Obj'),ev (zD T) g=.fn f caps /\
  LeL (evs (ev (zD T)) as_++caps) (iJ hn cargs)/\Sound f cargs [(m,x)] [] r [(m,x')] []/\hn m=n/\o=some x/\tG x=true/\tG x'=true /\
  yX lv cargs=true/\lv r=true/\nmIn [m] r=true/\K (ren hn r) x'
def UW (ms:List (Nat×Obj')) (cs:List PV):Bool :=
 match ms with
 |[]=>true| (d,_)::r=>wL d cs&&UW r cs
def TB (ms:List (Nat×Obj')) (o:Oper) (n:Nat) (T:List (Nat×PV)) (O:List (Nat×Obj')) (K:PV->Obj'->Prop):Prop :=
 match o.guard with
 |some _=>False
 |none=>match o.op with
  |.store t a v=>(match o.dst with
   |some _=>False
   |none=>match ev (zD T) a with
    |.ptr m off=>(match nqb m n with
     |true=>(match yK O n with
      |some (.box cs)=>(match nqb (yW (ev (zD T) v)).length (ty t).cells&&nle (off+(ty t).cells) cs.length&&nlt 0 (ty t).cells&&yX tE (yW (ev (zD T) v))&&UW ms (uV cs off (yW (ev (zD T) v))) with
       |true=>K .any (.box (uV cs off (yW (ev (zD T) v))))| false=>False)
      |_=>False)
     |false=>False)
    |_=>False)
  |.call c=>(match c.callee with
   |.value g=>Eff1 g c.args.toList T (yK O n) n K| _=>False)
  |_=>False
def y4:List (Nat×Nat)->Nat->Option Nat
 |[],_=>none| (i,n)::r,j=>(match nqb i j with|true=>some n|false=>y4 r j)
def Yw (all:List Oper) (es:List (Nat×Nat)) (ms lim:List (Nat×Obj')):List Oper->Nat->List (Nat×PV)->List (Nat×Obj')->(List (Nat×PV)->List (Nat×Obj')->Prop)->Prop
 |[],_,T,O,K=>K T O
 |o::r,i,T,O,K=>match vD o with
  |some (d,x)=>Yw all es ms lim r (i+1) (vQ T d (.ptr d 0)) (O++[(d,x)]) K
  |none=>match y4 es i with
   |some n=>TB ms o n T O (λv x=>Yw all es ms lim r (i+1) (put ⟨T,[]⟩ o.dst v).tmps (setO O n x) K)| none=>kJ all o (zD T) (λ_=>gE true lim o.op (ev (zD T)) (λv=>lS all o (put ⟨T,[]⟩ o.dst v) (λp=>Yw all es ms lim r (i+1) p.tmps O K))) (λ_=>Yw all es ms lim r (i+1) (put ⟨T,[]⟩ o.dst (.tup [])).tmps O K)
def kZ:List (Nat×Nat)->List Nat
 |[]=>[]| (_,n)::r=>n::kZ r
def Kp:List Nat->Bool
 |[]=>true| n::r=>!(yM n r)&&Kp r
def TC (ops:List Oper) (k:Nat) (es:List (Nat×Nat)):Bool :=
 Kp (kZ es)&&es.all (λe=>nlt e.1 k&&(match ops[e.1]? with
  |some o=>(match vD o with
   |some _=>false| none=>true)
  |none=>false)&&(List.range k).all λj=>match ops[j]? with
  |some oj=>(match vD oj with
   |some (d,_)=>!(nqb d e.2) || ((anc ops).getD e.1 0).testBit j| none=>true)
  |none=>true)
def scA (P:List Nat):PV->PV
 |.agg _=>.any| .tup _=>.any| .fn _ _=>.any| .ptr m off=>(match yM m P with|true=>.any|false=>.ptr m off)| .aptr m s i off=>(match yM m P with|true=>.any|false=>.aptr m s i off)| .osl m s i len=>(match yM m P with|true=>.any|false=>.osl m s i len)| v=>v
def scB (P:List Nat):PV->PV
 |.agg cs=>.agg (wW (scA P) cs)| .tup cs=>.tup (wW (scA P) cs)| .fn f cs=>.fn f (wW (scA P) cs)| v=>scA P v
def scC (P:List Nat):PV->PV
 |.agg cs=>.agg (wW (scB P) cs)| .tup cs=>.tup (wW (scB P) cs)| .fn f cs=>.fn f (wW (scB P) cs)| v=>scA P v
structure EffA (t : TypeId) (x : Operand) (v : PV) (T : List (Nat × PV)) (o : Option Obj') (n : Nat) (K : PV → Obj' → Prop) : Prop where
  h : ∃ (s b : Nat) (z : List PV) (xs : Unit → List (List D)) (lg : Bool) (els : Unit → List (List D)), ty t = .sli s b z ∧ (ev (zD T) x = .sl xs ∨ (ev (zD T) x = .nil ∧ xs () = [])) ∧ Wid s xs ∧
    o = some (fQ lg s els) ∧ ((∃ o' len : Unit → Nat, v = .osl n s o' len ∧ o' () = 0 ∧ len () = (els ()).length ∧ Room (fun _ => (((els ()).length + (xs ()).length : Nat) : Int)) b ∧
      K (.osl n s (fun _ => 0) (fun _ => (els ()).length + (xs ()).length)) (fQ lg s (fun _ => els () ++ xs ()))) ∨
     (jN v = true ∧ Room (fun _ => ((xs ()).length : Nat)) b ∧ K (.osl n s (fun _ => 0) (fun _ => (xs ()).length)) (.arr s xs)))
def Tq (n:Nat):PV->Bool
 |.osl m _ _ _=>nqb m n| .agg _=>false| .tup _=>false| .fn _ _=>false| .ptr _ _=>false| .aptr _ _ _ _=>false| _=>true
def M7:Operand->Bool
 |.tmp _=>false| _=>true
structure EffC (g:Operand) (as_:List Operand) (T:List (Nat×PV)) (o:Option Obj') (n:Nat) (K:PV->Obj'->Prop):Prop where
 h:∃ (f:FuncId) (caps:List PV) (hn:Nat->Nat) (cargs:List PV) (m k s:Nat) (els els':Unit->List (List D)) (o' l':Unit->Nat),ev (zD T) g=.fn f caps/\M7 g=true /\
  LeL (evs (ev (zD T)) as_++caps) (iJ hn cargs)/\Sound f cargs [] [(m,.arr s els)] (.osl k s o' l') [] [(k,.arr s els')]/\hn m=n/\hn k=n/\o=some (.arr s els)/\yX lv cargs=true /\
  yX (Tq n) (evs (ev (zD T)) as_)=true/\K (.osl n s o' l') (.arr s els')
def TA (o:Oper) (n:Nat) (T:List (Nat×PV)) (O:List (Nat×Obj')) (K:PV->Obj'->Prop):Prop :=
 match o.guard with
 |some _=>False
 |none=>match o.op with
  |.call c=>(match c.callee with
   |.builtin .append=>(match c.args.toList,c.argTypes.toList,o.dst with
    |[b,x],[t,tx],some d=>(match l4 (ty tx)&&nqb d n with
     |true=>EffA t x (ev (zD T) b) T (yK O n) n K| false=>False)
    |_,_,_=>False)
   |.value g=>(match o.dst with
    |some d=>(match nqb d n with
     |true=>EffC g c.args.toList T (yK O n) n K| false=>False)
    |none=>False)
   |_=>False)
  |.alloc _=>(match vD o,yK O n with
   |some (d,x),some (.arr _ _)=>(match nqb d n with
    |true=>K (.ptr n 0) x| false=>False)
   |_,_=>False)
  |_=>False
def fX (an:List Nat) (i:Nat):List (Nat×Nat)->List Nat
 |[]=>[]| (e,m)::r=>(match (an.getD e 0).testBit i with|true=>fX an i r|false=>m::fX an i r)
def Jn (an:List Nat) (i:Nat):List (Nat×Nat)->List Nat
 |[]=>[]| (e,m)::r=>(match (an.getD i 0).testBit e with|true=>m::Jn an i r|false=>Jn an i r)
def Fr (an:List Nat) (i:Nat):List (Nat×Nat)->List Nat
 |[]=>[]| (e,m)::r=>(match (an.getD i 0).testBit e with|true=>Fr an i r|false=>m::Fr an i r)
def nO (T:List (Nat×PV)) (n:Nat) (A:List Nat):List (Nat×Operand)->Bool
 |[]=>true| (_,.tmp t)::r=>xN n (zD T t)&&(qT (zD T t) || yM t A)&&nO T n A r| _::r=>nO T n A r
def YO (n:Nat) (v:PV):List Nat->Bool
 |[]=>true| m::r=>(nqb m n || xN m v)&&YO n v r
def TR (es:List (Nat×Nat)) (an:List Nat) (i:Nat) (o:Oper) (n:Nat) (T:List (Nat×PV)) (O:List (Nat×Obj')) (K:PV->Obj'->Prop):Prop :=
 match o.guard,o.op,o.dst,yK O n with
 |none,.build t parts,some d,some (.arr s _)=>(match ty t with
  |.st _ fs z=>(match Wg fs (vA (ev (zD T)) parts.toList) z with
   |some cs=>(match nqb d n&&nO T n (Jn an i es) parts.toList&&YO n (.agg cs) (Fr an i es) with
    |true=>K (.agg cs) (.arr s (λ_=>[]))| false=>False)
   |none=>False)
  |_=>False)
 |_,_,_,_=>False
def Ri:Op->Bool
 |.build _ _=>true| _=>false
def QB (all:List Oper) (es:List (Nat×Nat)) (an:List Nat) (lim:List (Nat×Obj')):List Oper->Nat->List (Nat×PV)->List (Nat×Obj')->(List (Nat×PV)->List (Nat×Obj')->Prop)->Prop
 |[],_,T,O,K=>K T O
 |o::r,i,T,O,K=>match y4 es i with
  |some n=>(match Ri o.op with
   |true=>TR es an i o n T O (λv x=>QB all es an lim r (i+1) (put ⟨T,[]⟩ o.dst v).tmps (setO O n x) K)| false=>TA o n T O (λv x=>QB all es an lim r (i+1) (put ⟨T,[]⟩ o.dst v).tmps (setO O n x) K))
  |none=>kJ all o (zD (xW (scC (fX an i es)) T)) (λ_=>gE false (y6 (scC (fX an i es)) lim) o.op (ev (zD (xW (scC (fX an i es)) T))) (λv=>lS all o (put ⟨T,[]⟩ o.dst v) (λp=>QB all es an lim r (i+1) p.tmps O K))) (λ_=>QB all es an lim r (i+1) (put ⟨T,[]⟩ o.dst (.tup [])).tmps O K)
def sR (P:List Nat):List (Nat×PV)->List (Nat×PV)
 |[]=>[]| (t,v)::r=>(t,(match yM t P with|true=>v|false=>scC P v))::sR P r
def TW (k:Nat) (es:List (Nat×Nat)):Bool :=
 Kp (kZ es)&&es.all (λe=>nlt e.1 k&&nlt e.2 1000000&&(match y4 es e.1 with|some n=>nqb n e.2|none=>false))
def GR (o:Oper) (l:List Bool):Bool:=o.after.toList.all λe=>!(Region.binds .any e) || l.getD e.on false
def Cj (ops:List Oper) (l:List Bool):List Nat:=(List.range ops.length).filter λi=>!(l.getD i true)&&(match ops[i]? with|some o=>GR o l|none=>false)
def Hs (o:Oper) (τ:Nat->PV):Bool :=
 match o.op with
 |.move _=>true| .nilCheck x=>(match ev τ x with|.ptr _ _=>true|_=>false)| .fieldAddr t x i=>(match ty t,ev τ x with|.st _ fs _,.ptr _ _=>(match fs[i]? with|some _=>true|none=>false)|.st _ fs _,.aptr _ _ _ _=>(match fs[i]? with|some _=>true|none=>false)|_,_=>false)| _=>false
def XJ (o:Oper):Bool:=match o.guard with|some _=>false|none=>true
def Vv (ops:List Oper) (l:List Bool) (τ:Nat->PV):List Nat->Option Nat
 |[]=>none
 |i::r=>(match ops[i]? with
  |some o=>(match Hs o τ&&XJ o&&Region.free .any ops.toArray l.toArray i with|true=>some i|false=>Vv ops l τ r)| none=>Vv ops l τ r)
def HN (ops:List Oper) (j:Nat) (ps:PS) (K:PS->Prop):Prop :=
 match ops[j]? with
 |some o=>(match XJ o with|true=>dX o ps K|false=>False)| none=>False
def TY (f:Nat->Prop):List Nat->Prop
 |[]=>True| i::r=>f i/\TY f r
def WR (ops:List Oper):Nat->List Bool->PS->(PS->Prop)->Prop
 |0,l,ps,K=>(match Cj ops l with|[]=>K ps|_::_=>False)
 |f+1,l,ps,K=>(match Cj ops l with
  |[]=>K ps
  |i::r=>(match Vv ops l (zD ps.tmps) (i::r) with
   |some j=>HN ops j ps (λps'=>WR ops f (l.set j true) ps' K)| none=>TY (λj=>HN ops j ps (λps'=>WR ops f (l.set j true) ps' K)) (i::r)))
inductive DrawK (ops:List Oper) (ps:PS) (K:PS->Prop):Prop where
 |st (k i0 n:Nat) (us:List Nat) (ps':PS) (hw:Wk ps ps') (hd:fG ops k=true) (hm:QW ops k i0 us=true) (hs:QV ops k i0 n us ps' K):DrawK ops ps K
 |ef (k:Nat) (es:List (Nat×Nat)) (ps':PS) (hw:Wk ps ps') (hd:fG ops k=true) (he:TC ops k es=true) (hm:(ndO (yR (ops.take k))&&UY ps' (yR (ops.take k)))=true)
  (hs:Yw ops es (yR (ops.take k)) (gJ (kZ es) ps'.objs) (ops.take k) 0 ps'.tmps ps'.objs (λT O=>VP (yR (ops.take k)) T (jB ops (ops.drop k) ⟨T,O⟩ K))):DrawK ops ps K
 |ap (k:Nat) (es:List (Nat×Nat)) (ps':PS) (hw:Wk ps ps') (hd:fG ops k=true) (he:TW k es=true)
  (hs:QB ops es (anc ops) (gJ (kZ es) ps'.objs) (ops.take k) 0 ps'.tmps ps'.objs (λT O=>jB ops (ops.drop k) ⟨sR (kZ es) T,y6 (scC (kZ es)) O⟩ K)):DrawK ops ps K
 |br (σ:Type) (inv:σ->PS) (good:σ->Prop) (ps':PS) (hw:Wk ps ps') (hsel:Region.noSelect ops.toArray=true) (hs:WR ops ops.length (List.replicate ops.length false) ps' (λq=>∃ s,good s/\Wk q (inv s))) (hks:∀ s,good s->K (inv s)):DrawK ops ps K
def XP {σ:Type} (inv:σ->PS) (good:σ->Prop) (Q:Exit->PS->Prop):Exit->PS->Prop
 |.normal,ps'=>∃ s,good s/\Wk ps' (inv s)| e,ps'=>Q e ps'
structure Cut (b:Unit->Bool) (A B:(Exit->PS->Prop)->Prop) (Q:Exit->PS->Prop):Prop where
 h:((b ()=true->A Q)/\(b ()=false->B Q)) \/
  ∃ (σ:Type) (inv:σ->PS) (good:σ->Prop),(b ()=true->A (XP inv good Q))/\(b ()=false->B (XP inv good Q))/\∀ s,good s->Q .normal (inv s)
structure LoopOk (B:PS->(Exit->PS->Prop)->Prop) (ps:PS) (Q:Exit->PS->Prop):Prop where
 h:∃ (σ:Type) (inv:σ->PS) (good:σ->Prop) (mu:σ->Nat) (s0:σ),good s0/\Wk ps (inv s0) /\
  ∀ s,good s->B (inv s) (λe ps'=>match e with
   |.normal=>∃ s',good s'/\mu s'<mu s/\Wk ps' (inv s')| e=>Q e ps')
def Ba:List Oper->List Nat->Bool
 |[],_=>false
 |o::r,ds=>(match o.guard with
  |none=>Ba r (ds++[0])| some (j,_)=>(match nle 2 (ds.getD j 0) with|true=>true|false=>Ba r (ds++[ds.getD j 0+1])))
structure RegK (ops:List Oper) (ps:PS) (K:PS->Prop):Prop where
 h:jB ops ops ps K\/∃ (σ:Type) (inv:σ->PS) (good:σ->Prop),jB ops ops ps (λps'=>∃ s,good s/\Wk ps' (inv s))/\∀ s,good s->K (inv s)
def wp:Code->PS->(Exit->PS->Prop)->Prop
 |.skip,ps,Q=>Q .normal ps| .region _ ops false,ps,Q=>(match Ba ops.toList [] with|true=>RegK ops.toList ps (Q .normal)|false=>jB ops.toList ops.toList ps (Q .normal))| .region _ ops true,ps,Q=>DrawK ops.toList ps (Q .normal)
 |.seq a b,ps,Q=>wp a ps λe ps'=>match e with
   |.normal=>wp b ps' Q| e=>Q e ps'
 |.cond c a b,ps,Q=>match ev (zD ps.tmps) c with
   |.tt=>wp a ps Q| .ff=>wp b ps Q| .bool x=>Cut x (λQ=>wp a ps Q) (λQ=>wp b ps Q) Q| .nbool x=>Cut x (λQ=>wp b ps Q) (λQ=>wp a ps Q) Q| _=>False
 |.block id b,ps,Q=>wp b ps λe ps'=>match e with
   |.exit i=>(match nqb i id with|true=>Q .normal ps'|false=>Q (.exit i) ps')| e=>Q e ps'
 |.exit id,ps,Q=>Q (.exit id) ps| .ret,ps,Q=>Q .ret ps| .loop b,ps,Q=>LoopOk (λps Q=>wp b ps Q) ps Q| .label _,ps,Q=>Q .normal ps
 |.scope b,ps,Q=>wp b ps λe ps'=>match e with
   |.goto _=>False| e=>Q e ps'
 |_,_,_=>False
def rdV (t:Ty) (cs:List PV) (off:Nat):Option PV :=
 (match t.isNo with|true=>none|false=>(match nle (off+t.cells) cs.length with|true=>some ((match t.isA with|true=>.agg ((cs.drop off).take t.cells)|false=>cs.getD off .any))|false=>none))
def dW (ps:PS):List ResultVar->Option (List PV)
 |[]=>some []
 |.tmp t::r=>match dW ps r with
  |some l=>some (zD ps.tmps t::l)| none=>none
 |.cell a t::r=>match zD ps.tmps a with
  |.ptr n off=>match yK ps.objs n with
   |some (.box cs)=>match rdV (ty t) cs off,dW ps r with
    |some v,some l=>some (v::l)| _,_=>none
   |_=>none
  |_=>none
def mM:List PV->PV
 |[v]=>v| l=>.tup l
def ZJ (h:Nat->Nat):List (Nat×Obj')->Prop
 |[]=>True| (n,_)::r=>(h n=n/\1000000<=n)/\ZJ h r
structure RetOk (rs:List ResultVar) (r:PV) (kept' made:List (Nat×Obj')) (ps:PS):Prop where
 h:∃ ps' l hn,Wk ps ps'/\dW ps' rs=some l/\Le (mM l) (ren hn r)/\lv r=true/\uA hn ps'.objs (kept'++made)/\ndO (yC hn (kept'++made))=true/\ZJ hn kept'
def gT (rs:List ResultVar) (r:PV) (kept' made:List (Nat×Obj')):Exit->PS->Prop
 |.normal,ps=>RetOk rs r kept' made ps| .ret,ps=>RetOk rs r kept' made ps| _,_=>False
end Go.Proofs.YtboocdbmnfjomaaGreat
