/- A part of the proof: PmC. -/
import Derived.Test.YtaeaffgjdcigoaaGreatC03
set_option linter.all false
namespace Go.Proofs.YtaeaffgjdcigoaaGreat
open Go
def hasN (n:Nat):List (Nat×Obj')->Bool
 |[]=>false| (m,_)::r=>nqb m n || hasN n r
def ndO:List (Nat×Obj')->Bool
 |[]=>true| (n,_)::r=>!(hasN n r)&&ndO r
def rn0 (h:Nat->Nat):PV->PV
 |.ptr m off=>.ptr (h m) off| .aptr m s i off=>.aptr (h m) s i off| .osl m s i len=>.osl (h m) s i len| .mpv m=>.mpv (h m)| v=>v
def rn1 (h:Nat->Nat):PV->PV
 |.agg cs=>.agg (vG (rn0 h) cs)| .tup cs=>.tup (vG (rn0 h) cs)| .fn f cs=>.fn f (vG (rn0 h) cs)| v=>rn0 h v
def ren (h:Nat->Nat):PV->PV
 |.agg cs=>.agg (vG (rn1 h) cs)| .tup cs=>.tup (vG (rn1 h) cs)| .fn f cs=>.fn f (vG (rn1 h) cs)| v=>rn0 h v
def renL (h:Nat->Nat):List PV->List PV:=vG (ren h)
def lv0:PV->Bool
 |.agg _=>false| .tup _=>false| .fn _ _=>false| _=>true
def lv1:PV->Bool
 |.agg cs=>yR lv0 cs| .tup cs=>yR lv0 cs| .fn _ cs=>yR lv0 cs| _=>true
def lv:PV->Bool
 |.agg cs=>yR lv1 cs| .tup cs=>yR lv1 cs| .fn _ cs=>yR lv1 cs| _=>true
def xY (f:PV->PV):Obj'->Obj'
 |.box cs=>.box (vG f cs)| .arr s els=>.arr s els| .log s els=>.log s els| .lent s els=>.lent s els| .mat s rows hs=>.mat s rows (j7 f hs)| .mp t ks=>.mp t ks
def allH (p:PV->Bool):List (PV×(Unit->Nat))->Bool
 |[]=>true| (v,_)::r=>p v&&allH p r
def cR:Obj'->Bool
 |.box cs=>yR lv cs| .arr _ _=>true| .log _ _=>false| .lent _ _=>false| .mat _ _ hs=>allH lv hs| .mp _ _=>true
def nmOb (l:List Nat):Obj'->Bool
 |.box cs=>yR (nmIn l) cs| .mat _ _ hs=>allH (nmIn l) hs| _=>true
def pM (l:List Nat):List (Nat×Obj')->Bool
 |[]=>true| (_,o)::r=>(cR o&&nmOb l o)&&pM l r
def cJ:List Nat->PV->PV
 |[],v=>v| n::r,v=>cJ r (scr n v)
def j9:List Nat->List (Nat×Obj')->List (Nat×Obj')
 |[],l=>l| n::r,l=>j9 r (xO l n)
def kF (h:Nat->Nat) (l:List (Nat×Obj')):List (Nat×Obj')->Prop
 |[]=>True| (n,o)::r=>(yG l (h n)=some (xY (ren h) o)/\cR o=true)/\kF h l r
def sP (h:Nat->Nat) (l:List (Nat×Obj')):List (Nat×Obj')->List (Nat×Obj')
 |[]=>l| (n,o)::r=>sP h (setO l (h n) (xY (ren h) o)) r
def z5 (h:Nat->Nat):List (Nat×Obj')->List (Nat×Obj')
 |[]=>[]| (n,o)::r=>(h n,xY (ren h) o)::z5 h r
def mC:List (Nat×Obj')->List Nat
 |[]=>[]| (n,_)::r=>n::mC r
structure CallS (nb:Bool) (objs:List (Nat×Obj')) (f:FuncId) (args:List PV) (K:PV->Prop):Prop where
 h:(∃ args' r,LeL args args'/\zE f args' r/\nmIn [] r=true/\K r) \/
  (nb=true/\∃ (hn:Nat->Nat) (cargs:List PV) (kept:List (Nat×Obj')) (r:PV),LeL args (renL hn cargs)/\Sound f cargs kept [] r kept []/\kF hn objs kept/\ndO (z5 hn kept)=true/\ndO kept=true /\
   pM (mC kept) kept=true/\yR lv cargs=true/\lv r=true/\nmIn (mC kept) r=true/\K (ren hn r))
structure EqS (op:BinOp) (t:TypeId) (x y:Operand) (a b:List Fld) (K:PV->Prop):Prop where
 h:∃ r:Bool,(∀ w:World,(do eqGuard op t x y (.agg (oZ a).toArray) (.agg (oZ b).toArray);binOp op t (.agg (oZ a).toArray) (.agg (oZ b).toArray):Sem Value).run Pg w=.ok (.bool r) w)/\K (.bool (fun _=>r))
def notV:PV->PV
 |.bool b=>.nbool b| v=>v
structure NilCmp (els:Unit->List (List D)) (K:PV->Prop):Prop where
 h:∀ b:Bool,(b=true->els ()=[])->K (.bool (fun _=>b))
structure NilLen (len:Unit->Nat) (K:PV->Prop):Prop where
 h:∀ b:Bool,(b=true->len ()=0)->K (.bool (fun _=>b))
structure StrRoom (a b:Unit->ByteArray):Prop where
 h:(a ()).size+(b ()).size<=9223372036854775807
def strK (op:BinOp) (a b:Unit->ByteArray) (K:PV->Prop):Prop :=
 match op with
 |.add=>StrRoom a b/\K (.str (fun _=>a ()++b ()))| .eql=>K (.bool (fun _=>(a ()).toList == (b ()).toList))| .neq=>K (.nbool (fun _=>(a ()).toList == (b ()).toList))| _=>False
def zDJ (ns:List Int):ByteArray:=ns.foldl (fun r n=>r.push (UInt8.ofNat n.toNat)) ByteArray.empty
structure ToStr (src dst:TypeId) (els:Unit->List (List D)) (K:PV->Prop):Prop where
 h:(∃ e,Pg.underlying src=some (.slice e)/\Pg.underlying e=some (.int .u8))/\Pg.underlying dst=some .string/\∃ ns:List Int,els ()=ns.map (fun n=>[D.int .u8 n])/\K (.str (fun _=>zDJ ns))
def zNA:PV->Option Bool
 |.nilp=>some true| .ptr _ _=>some false| _=>none
def binK (op:BinOp) (t:TypeId) (ox oy:Operand) (x y:PV) (K:PV->Prop):Prop :=
 match x,y with
 |.int k a,.int k' b=>intK op k a k' b K| .str a,.str b=>strK op a b K
 |.agg l,.agg m=>match zBZ l,zBZ m with
  |some a,some b=>EqS op t ox oy a b K| _,_=>False
 |x,y=>match ty t with
  |.sc .ff=>match op,bval x,bval y with
   |.eql,some a,some b=>K (.bool (fun _=>decide (a ()=b ())))| .neq,some a,some b=>K (.nbool (fun _=>decide (a ()=b ())))| _,_,_=>False
  |.sc .nilp=>match op,zNA x,zNA y with
   |.eql,some a,some b=>(match a || b with|true=>K (.bool (fun _=>a&&b))|false=>False)| .neq,some a,some b=>(match a || b with|true=>K (.nbool (fun _=>a&&b))|false=>False)| _,_,_=>False
  |_=>False
structure AtOk (k:Unit->Int) (len:Nat) (K:Nat->Prop):Prop where
 h:∃ j:Nat,k ()=(j:Int)/\j<len/\K j
structure FrOk (i len:Unit->Nat) (els:Unit->List (List D)):Prop where
 h:i ()+len ()<=(els ()).length
def fo0 (n:Nat) (o:Obj'):PV->Prop
 |.osl m s i len=>(match nqb m n with
  |true=>(match rowO o with
   |some (_,els)=>FrOk i len els| none=>True)
  |false=>True)
 |_=>True
def allP (f:PV->Prop):List PV->Prop
 |[]=>True| v::r=>f v/\allP f r
def fo1 (n:Nat) (o:Obj'):PV->Prop
 |.agg cs=>allP (fo0 n o) cs| .tup cs=>allP (fo0 n o) cs| .fn _ cs=>allP (fo0 n o) cs| v=>fo0 n o v
def fo (n:Nat) (o:Obj'):PV->Prop
 |.agg cs=>allP (fo1 n o) cs| .tup cs=>allP (fo1 n o) cs| .fn _ cs=>allP (fo1 n o) cs| v=>fo0 n o v
def anyL (f:PV->Bool):List PV->Bool
 |[]=>false| v::r=>(match f v with|true=>true|false=>anyL f r)
def lnt0 (objs:List (Nat×Obj')):PV->Bool
 |.osl m _ _ _=>(match yG objs m with
  |some (.lent _ _)=>true| _=>false)
 |_=>false
def lnt (objs:List (Nat×Obj')):PV->Bool
 |.agg cs=>anyL (lnt0 objs) cs| v=>lnt0 objs v
structure LdK (objs:List (Nat×Obj')) (v:PV) (K:PV->Prop):Prop where
 h:K v\/∃ n s els,yG objs n=some (.lent s els)/\fo n (.lent s els) v/\K (frz n (.lent s els) v)
def ldV (objs:List (Nat×Obj')) (v:PV) (K:PV->Prop):Prop :=
 match lnt objs v with
 |true=>LdK objs v K| false=>K v
structure AtN (i:Unit->Nat) (len:Nat) (K:Nat->Prop):Prop where
 h:i ()<len/\K (i ())
structure HoleK (hs:List (PV×(Unit->Nat))) (i:Unit->Nat) (K:PV->Prop):Prop where
 h:∃ v k,(v,k)∈hs/\k ()=i ()/\K v
structure StoH (hs:List (PV×(Unit->Nat))) (i:Unit->Nat) (v:PV) (K:List (PV×(Unit->Nat))->Prop):Prop where
 h:∃ hs1 v0 k hs2,hs=hs1++(v0,k)::hs2/\k ()=i ()/\(∀ v' k',(v',k')∈hs1++hs2->k' ()≠i ())/\K (hs1++(v,k)::hs2)
structure FocOk (i:Unit->Nat) (rows:Unit->List (List (List D))) (hs:List (PV×(Unit->Nat))):Prop where
 h:i ()<(rows ()).length/\∀ v k,(v,k)∈hs->k ()≠i ()
def sop (objs:List (Nat×Obj')) (op:Op) (e:Operand->PV) (K:PV->Prop):Prop :=
 match op with
 |.move x=>K (e x)| .assign x=>K (e x)| .pick c a b=>brV (e c) (fun _=>K (e a)) (fun _=>K (e b))
 |.build t parts=>match ty t with
  |.st _ fs z=>match zK9 fs (vZ e parts.toList) z with
   |some cs=>K (.agg cs)| none=>False
  |.arr _ n _ z=>match zLA n (vZ e parts.toList) z with
   |some cs=>K (.agg cs)| none=>False
  |_=>False
 |.buildSlice t len parts=>match ty t with
  |.sli n _ z=>match sB n (vZ e parts.toList) (s5 z len) with
   |some els=>(match nle (len*n) 1000&&mQ els with|true=>K (slOf els)|false=>False)| none=>False
  |_=>False
 |.load t a=>match e a with
  |.dptr cs off=>rdK (ty t) cs off K
  |.ptr n off=>match yG objs n with
   |some (.box cs)=>rdK (ty t) cs off (fun v=>ldV objs v K)| _=>False
  |.aptr n s i off=>match yG objs n with
   |some (.arr s' els)=>(match nqb s s' with|true=>ElOk s els i (fun c=>rdK (ty t) c off K)|false=>False)| some (.mat _ _ hs)=>(match nqb s 1&&nqb off 0 with|true=>HoleK hs i (fun v=>rdK (ty t) [v] 0 K)|false=>False)| some (.box cs)=>(match nqb s 1&&nqb off 0 with|true=>AtN i cs.length (fun j=>rdK (ty t) cs j K)|false=>False)| _=>False
  |_=>False
 |.binOp op t x y _=>binK op t x y (e x) (e y) K
 |.unOp op _ x=>match op,e x with
  |.not,.tt=>K .ff| .not,.ff=>K .tt| .not,.bool b=>K (.nbool b)| .not,.nbool b=>K (.bool b)| .neg,.int k n=>arK k (fun _=>0-n ()) K| _,_=>False
 |.convert src dst x=>(match (ty src).isNo with
  |true=>False
  |false=>(match ty dst,e x with
   |.sc (.int k _),.int _ n=>K (.int k (fun _=>nx k (n ())))| .no,.sl els=>ToStr src dst els K| _,_=>False))
 |.fieldAddr t x i=>match ty t with
  |.st _ fs _=>match fs[i]? with
   |some (off,_,_)=>match e x with
    |.ptr n o=>K (.ptr n (o+off))| .aptr n s j o=>K (.aptr n s j (o+off))| .dptr cs o=>K (.dptr cs (o+off))| _=>False
   |none=>False
  |_=>False
 |.field t x i=>match ty t with
  |.st _ fs _=>match fs[i]? with
   |some (off,sz,ag)=>match ag with
    |true=>match e x with
     |.agg cs=>(match nle (off+sz) cs.length with|true=>K (.agg ((cs.drop off).take sz))|false=>False)| _=>False
    |false=>match e x with
     |.agg cs=>(match nqb sz 1&&nlt off cs.length with|true=>K (cs.getD off .any)|false=>False)| _=>False
   |none=>False
  |_=>False
 |.indexAddr t x i=>match ty t,e x,e i with
  |.sli n _ _,.sl els,.int _ k=>IdxOk n els k (fun c=>K (.dptr c 0))| .sli n _ _,.osl m s o len,.int _ k=>(match nqb n s with|true=>Rng k len/\K (.aptr m s (fun _=>o ()+(k ()).toNat) 0)|false=>False)| .arr len n _ _,.ptr m o,.int _ k=>AtOk k len (fun j=>K (.ptr m (o+j*n)))| _,_,_=>False
 |.index t x i=>match ty t,e x,e i with
  |.arr len 1 false _,.agg cs,.int _ k=>(match nqb len cs.length with|true=>AtOk k len (fun j=>K (cs.getD j .any))|false=>False)| _,_,_=>False
 |.extract x i=>match e x with
  |.tup vs=>(match nlt i vs.length with|true=>K (vs.getD i .any)|false=>False)| _=>False
 |.slice t x lo hi none=>match ty t,e x with
  |.sli n _ _,.sl els=>match iH e (fun _=>0) lo,iH e (fun _=>((els ()).length:Nat)) hi with
   |some l,some h=>SlOk l h (fun _=>(els ()).length)/\Wid n els/\K (.sl (fun _=>((els ()).take (h ()).toNat).drop (l ()).toNat))| _,_=>False
  |.sli n _ _,.osl m s o len=>match iH e (fun _=>0) lo,iH e (fun _=>(len ():Nat)) hi with
   |some l,some h=>(match nqb n s with|true=>SlOk l h len/\SlNe l h/\K (.osl m s (fun _=>o ()+(l ()).toNat) (fun _=>(h ()).toNat-(l ()).toNat))|false=>False)| _,_=>False
  |.sli _ _ _,.nil=>match iH e (fun _=>0) lo,iH e (fun _=>0) hi with
   |some l,some h=>SlOk l h (fun _=>0)/\K .nil| _,_=>False
  |_,_=>False
 |.nilCheck x=>match e x with
  |.ptr n o=>K (.ptr n o)| .aptr n s i o=>K (.aptr n s i o)| .dptr c o=>K (.dptr c o)| _=>False
 |.makeFunc (.func f) first caps=>match first.toList with
  |[]=>K (.fn f (evs e caps.toList))| _=>False
 |.call c=>match c.callee with
  |.builtin .len=>match c.args.toList,c.argTypes.toList with
   |[x],[t]=>lenK (ty t) (e x) K| _,_=>False
  |.builtin .max=>match c.args.toList with
   |[x,y]=>match e x,e y with
    |.int .i64 a,.int .i64 b=>K (.int .i64 (fun _=>imax (a ()) (b ())))| _,_=>False
   |_=>False
  |.builtin .min=>match c.args.toList with
   |[x,y]=>match e x,e y with
    |.int .i64 a,.int .i64 b=>K (.int .i64 (fun _=>imin (a ()) (b ())))| _,_=>False
   |_=>False
  |.value f=>match e f with
   |.fn g caps=>CallS false [] g (evs e c.args.toList++caps) K| _=>False
  |_=>False
 |_=>False
def lQ:Ty->Bool
 |.sli _ _ _=>true| _=>false
def jD:PV->Bool
 |.nil=>true| .emp=>true| _=>false
def appN (n b:Nat) (base x:PV) (K:PV->Prop):Prop :=
 match x with
 |.sl xs=>Wid n xs/\Room (fun _=>((xs ()).length:Nat)) b/\K (.sl xs)| .nil=>K base| _=>False
def lS (op:Op):Bool :=
 match op with
 |.call c=>(match c.callee with
  |.builtin .append=>true| _=>false)
 |_=>false
def app2 (op:Op) (e:Operand->PV) (K:PV->Prop):Prop :=
 match op with
 |.call c=>(match c.args.toList,c.argTypes.toList with
  |[b,x],[t,tx]=>(match lQ (ty tx) with
   |true=>(match ty t,jD (e b) with
    |.sli n bb _,true=>appN n bb (e b) (e x) K| _,_=>False)
   |false=>False)
  |_,_=>False)
 |_=>False
def valC (op:Op):Option Call :=
 match op with
 |.call c=>(match c.callee with
  |.value _=>some c| _=>none)
 |_=>none
def iB (objs:List (Nat×Obj')) (op:Op) (e:Operand->PV) (K:PV->Prop):Prop :=
 match valC op with
 |none=>sop objs op e K
 |some c=>(match c.callee with
  |.value f=>(match e f with
   |.fn g caps=>CallS true objs g (evs e c.args.toList++caps) K| _=>False)
  |_=>False)
def j6 (nb:Bool) (objs:List (Nat×Obj')) (op:Op) (e:Operand->PV) (K:PV->Prop):Prop :=
 match lS op with
 |true=>app2 op e K| false=>(match nb with|true=>iB objs op e K|false=>sop objs op e K)
def gdV (want:Bool) (v:PV) (A B:Unit->Prop):Prop :=
 match v with
 |.tup []=>B ()| v=>(match want with|true=>brV v A B|false=>brV v B A)
def qS (all:List Oper) (o:Oper) (τ:Nat->PV) (A B:Unit->Prop):Prop :=
 match o.guard with
 |none=>A ()
 |some (j,want)=>match all[j]? with
  |some oj=>match oj.dst with
   |some d=>gdV want (τ d) A B| none=>False
  |none=>False
def isG (all:List Oper) (o:Oper):Bool :=
 match o.dst with
 |none=>false
 |some d=>all.any fun o'=>match o'.guard with
  |none=>false
  |some (j,_)=>match all[j]? with
   |some oj=>match oj.dst with
    |some d'=>nqb d d'| none=>false
   |none=>false
def lN (all:List Oper) (o:Oper) (ps:PS) (K:PS->Prop):Prop :=
 (match isG all o with
  |true=>(match o.dst with
  |some d=>match zB ps.tmps d with
   |.bool b=>Br b (fun _=>K ⟨v7 ps.tmps d .tt,ps.objs⟩) (fun _=>K ⟨v7 ps.tmps d .ff,ps.objs⟩)| .nbool b=>Br b (fun _=>K ⟨v7 ps.tmps d .ff,ps.objs⟩) (fun _=>K ⟨v7 ps.tmps d .tt,ps.objs⟩)| _=>K ps
  |none=>K ps)
  |false=>K ps)
def pI (nb:Bool) (all:List Oper):List Oper->PS->(PS->Prop)->Prop
 |[],ps,K=>K ps| o::r,ps,K=>qS all o (zB ps.tmps) (fun _=>j6 nb ps.objs o.op (ev (zB ps.tmps)) (fun v=>lN all o (put ps o.dst v) (fun ps'=>pI nb all r ps' K))) (fun _=>pI nb all r (put ps o.dst (.tup [])) K)
structure LeS (a b:PV):Prop where
 h:Le a b
structure ElsEq (e e':Unit->List (List D)):Prop where
 h:e ()=e' ()
def gD (f:PV->PV->Prop):List PV->List PV->Prop
 |[],[]=>True| a::r,b::q=>f a b/\gD f r q| _,_=>False
def les1:PV->PV->Prop
 |.agg a,.agg b=>gD LeS a b| .tup a,.tup b=>gD LeS a b| a,b=>LeS a b
def les:PV->PV->Prop
 |.agg a,.agg b=>gD les1 a b| .tup a,.tup b=>gD les1 a b| .fn f a,.fn g b=>nqb f g=true/\gD les1 a b| a,b=>LeS a b
structure RowsEq (e e':Unit->List (List (List D))):Prop where
 h:e ()=e' ()
def hLe:List (PV×(Unit->Nat))->List (PV×(Unit->Nat))->Prop
 |[],[]=>True| (v,k)::r,(v',k')::q=>(LeS v v'/\LeS (.int .i64 (fun _=>(k ():Int))) (.int .i64 (fun _=>(k' ():Int))))/\hLe r q| _,_=>False
structure KsEq (a b:Unit->List Int):Prop where
 h:a ()=b ()
def zHG:Obj'->Obj'->Prop
 |.box a,.box b=>gD les a b| .arr s e,.arr s' e'=>nqb s s'=true/\ElsEq e e'| .log s e,.log s' e'=>nqb s s'=true/\ElsEq e e'| .lent s e,.lent s' e'=>nqb s s'=true/\ElsEq e e'| .lent s e,.log s' e'=>nqb s s'=true/\ElsEq e e'| .mat s r h,.mat s' r' h'=>nqb s s'=true/\RowsEq r r'/\hLe h h'| .mp t k,.mp t' k'=>nqb t t'=true/\KsEq k k'| _,_=>False
def leT (src:List (Nat×PV)):List (Nat×PV)->Prop
 |[]=>True| (t,v)::r=>les (zB src t) v/\leT src r
def leO (src:List (Nat×Obj')):List (Nat×Obj')->Prop
 |[]=>True
 |(n,o)::r=>(match yG src n with
  |some o'=>zHG o' o| none=>False)/\leO src r
def pY:Obj'->Bool
 |.box cs=>yR iA cs| .arr _ _=>true| .log _ _=>false| .lent _ _=>false| .mat _ _ []=>true| .mat _ _ (_::_)=>false| .mp _ _=>false
def zDE:Obj'->Bool
 |.box cs=>yR iA cs| .mat _ _ _=>false| .mp _ _=>false| _=>true
def foT (n:Nat) (o:Obj'):List (Nat×PV)->Prop
 |[]=>True| (_,v)::r=>fo n o v/\foT n o r
def foH (n:Nat) (o:Obj'):List (PV×(Unit->Nat))->Prop
 |[]=>True| (v,_)::r=>fo n o v/\foH n o r
def foO (n:Nat) (o:Obj'):List (Nat×Obj')->Prop
 |[]=>True| (_,.box cs)::r=>allP (fo n o) cs/\foO n o r| (_,.arr _ _)::r=>foO n o r| (_,.log _ _)::r=>foO n o r| (_,.lent _ _)::r=>foO n o r| (_,.mat _ _ hs)::r=>foH n o hs/\foO n o r| (_,.mp _ _)::r=>foO n o r
def zME (n:Nat) (o:Obj') (ps:PS):PS:=⟨wV (frz n o) ps.tmps,y4 (frz n o) (xO ps.objs n)⟩
inductive Wk:PS->PS->Prop
 |refl (ps):Wk ps ps
 |le {ps ps'} (ht:leT ps.tmps ps'.tmps) (ho:leO ps.objs ps'.objs) (hn:ndO ps'.objs=true):Wk ps ps'
 |frz {ps} (n:Nat) {o} (ho:yG ps.objs n=some o) (hc:zDE o=true) (hT:foT n o ps.tmps) (hO:foO n o ps.objs):Wk ps (zME n o ps)
 |lend {ps} (n t:Nat) {o s els} (ho:yG ps.objs n=some o) (hr:rowO o=some (s,els)) (hf:fo n o (zB ps.tmps t)):Wk ps ⟨v7 ps.tmps t (frz n o (zB ps.tmps t)),setO ps.objs n (.log s els)⟩
 |pub {ps} (n:Nat) {o s els} (ho:yG ps.objs n=some o) (hr:rowO o=some (s,els)):Wk ps ⟨ps.tmps,setO ps.objs n (.lent s els)⟩
 |fresh {ps} (n s:Nat) (hf:yH n ps=true):Wk ps ⟨ps.tmps,ps.objs++[(n,.arr s (fun _=>[]))]⟩
 |drop {ps} (n:Nat):Wk ps ⟨wV (scr n) ps.tmps,y4 (scr n) (xO ps.objs n)⟩
 |adoptT {ps} (n s t:Nat) (hf:yH n ps=true) (ht:jD (zB ps.tmps t)=true):Wk ps ⟨v7 ps.tmps t (.osl n s (fun _=>0) (fun _=>0)),ps.objs++[(n,.arr s (fun _=>[]))]⟩
 |adoptB {ps} (n s m j:Nat) {cs} (hf:yH n ps=true) (ho:yG ps.objs m=some (.box cs)) (hj:jD (cs.getD j .any)=true) :
   Wk ps ⟨ps.tmps,setO ps.objs m (.box (cs.set j (.osl n s (fun _=>0) (fun _=>0))))++[(n,.arr s (fun _=>[]))]⟩
 |adoptM {ps} (n s m j:Nat) {cs} (hf:yH n ps=true) (ho:yG ps.objs m=some (.box cs)) (hj:cs[j]?=some .nil) :
   Wk ps ⟨ps.tmps,setO ps.objs m (.box (cs.set j (.osl n 1 (fun _=>0) (fun _=>0))))++[(n,.mat s (fun _=>[]) [])]⟩
 |focus {ps} (n k:Nat) (i:Unit->Nat) {s rows hs} (ho:yG ps.objs n=some (.mat s rows hs)) (hf:yH k ps=true) (hi:FocOk i rows hs) :
   Wk ps ⟨ps.tmps,setO ps.objs n (.mat s rows ((.osl k s (fun _=>0) (fun _=>((rows ()).getD (i ()) []).length),i)::hs))++[(k,.arr s (fun _=>(rows ()).getD (i ()) []))]⟩
 |unfocus {ps} (n k:Nat) (hs1 hs2:List (PV×(Unit->Nat))) {s rows i o len els} (ho:yG ps.objs n=some (.mat s rows (hs1++(.osl k s o len,i)::hs2))) (hk:yG ps.objs k=some (.arr s els)) (hne:nqb n k=false) (h0:o ()=0/\len ()=(els ()).length) :
   Wk ps ⟨wV (scr k) ps.tmps,setO (y4 (scr k) (xO ps.objs k)) n (.mat s (fun _=>(rows ()).set (i ()) (els ())) (j7 (scr k) (hs1++hs2)))⟩
 |trans {a b c} (h:Wk a b) (k:Wk b c):Wk a c
def iG (h:Nat->Nat) (eaten:List (Nat×Obj')) (ps:PS):PS :=
 ⟨wV (cJ ((z5 h eaten).map Prod.fst)) ps.tmps,y4 (cJ ((z5 h eaten).map Prod.fst)) (j9 ((z5 h eaten).map Prod.fst) ps.objs)⟩
def nX (h:Nat->Nat) (ps:PS):List (Nat×Obj')->Bool
 |[]=>true| (n,_)::r=>yH (h n) ps&&nX h ps r
def nJ (h:Nat->Nat) (eaten kept' made:List (Nat×Obj')) (ps:PS):PS :=
 ⟨(iG h eaten ps).tmps,sP h (iG h eaten ps).objs kept'++z5 h made⟩
structure CallOk (g : Operand) (as_ : List Operand) (dst : Option Nat) (ps : PS) (K : PS → Prop) : Prop where
  h : ∃ ps', Wk ps ps' ∧ ∃ f caps, ev (zB ps'.tmps) g = .fn f caps ∧
    ((∃ args' r, LeL (evs (ev (zB ps'.tmps)) as_ ++ caps) args' ∧ zE f args' r ∧ nmIn [] r = true ∧ K (put ps' dst r)) ∨
     (∃ (hn : Nat → Nat) (cargs : List PV) (kept eaten : List (Nat × Obj')) (r : PV) (kept' made : List (Nat × Obj')),
        LeL (evs (ev (zB ps'.tmps)) as_ ++ caps) (renL hn cargs) ∧ Sound f cargs kept eaten r kept' made ∧
        kF hn ps'.objs (kept ++ eaten) ∧ ndO (z5 hn (kept ++ eaten)) = true ∧ ndO (kept ++ eaten) = true ∧
        pM (mC (kept' ++ made)) (kept' ++ made) = true ∧ ndO (z5 hn made) = true ∧ nX hn (iG hn eaten ps') made = true ∧
        yR lv cargs = true ∧ lv r = true ∧ nmIn (mC (kept' ++ made)) r = true ∧
        K (put (nJ hn eaten kept' made ps') dst (ren hn r))))
def gY (lg:Bool) (s:Nat) (els:Unit->List (List D)):Obj' :=
 match lg with
 |true=>.log s els| false=>.arr s els
structure AppOk (t : TypeId) (base x : Operand) (dst : Option Nat) (ps : PS) (K : PS → Prop) : Prop where
  h : ∃ ps' d nm n b z xs, Wk ps ps' ∧ dst = some d ∧ ty t = .sli n b z ∧
    ((ev (zB ps'.tmps) x = .sl xs ∨ (ev (zB ps'.tmps) x = .nil ∧ xs () = [])) ∨ ∃ lg' m' o' len', ev (zB ps'.tmps) x = .osl m' n o' len' ∧ yG ps'.objs m' = some (gY lg' n xs) ∧ o' () = 0 ∧ len' () = (xs ()).length) ∧ Wid n xs ∧
    ((jD (ev (zB ps'.tmps) base) = true ∧ Room (fun _ => ((xs ()).length : Nat)) b ∧ yH nm ps' = true ∧ K ⟨v7 ps'.tmps d (.osl nm n (fun _ => 0) (fun _ => (xs ()).length)), ps'.objs ++ [(nm, .arr n xs)]⟩) ∨
     (∃ lg m o len els, ev (zB ps'.tmps) base = .osl m n o len ∧ yG ps'.objs m = some (gY lg n els) ∧ o () = 0 ∧ len () = (els ()).length ∧ Room (fun _ => (((els ()).length + (xs ()).length : Nat) : Int)) b ∧
       yH nm ⟨wV (scr m) ps'.tmps, y4 (scr m) (xO ps'.objs m)⟩ = true ∧
       K ⟨v7 (wV (scr m) ps'.tmps) d (.osl nm n (fun _ => 0) (fun _ => (els ()).length + (xs ()).length)), y4 (scr m) (xO ps'.objs m) ++ [(nm, gY lg n (fun _ => els () ++ xs ()))]⟩))
structure NeR (rows:Unit->List (List (List D))):Prop where
 h:0<(rows ()).length
structure AppM (t:TypeId) (base x:Operand) (dst:Option Nat) (ps:PS) (K:PS->Prop):Prop where
 h:∃ ps' d nm b z m m' s o len rows o' len' rows',Wk ps ps'/\dst=some d/\ty t=.sli 1 b z /\
  ev (zB ps'.tmps) base=.osl m 1 o len/\yG ps'.objs m=some (.mat s rows [])/\o ()=0/\len ()=(rows ()).length /\
  ev (zB ps'.tmps) x=.osl m' 1 o' len'/\yG ps'.objs m'=some (.mat s rows' [])/\o' ()=0/\len' ()=(rows' ()).length/\nqb m m'=false/\NeR rows' /\
  Room (fun _=>(((rows ()).length+(rows' ()).length:Nat):Int)) b /\
  yH nm ⟨wV (scr m') (wV (scr m) ps'.tmps),y4 (scr m') (xO (y4 (scr m) (xO ps'.objs m)) m')⟩=true /\
  K ⟨v7 (wV (scr m') (wV (scr m) ps'.tmps)) d (.osl nm 1 (fun _=>0) (fun _=>(rows ()).length+(rows' ()).length)),y4 (scr m') (xO (y4 (scr m) (xO ps'.objs m)) m')++[(nm,.mat s (fun _=>rows ()++rows' ()) [])]⟩
structure AppK (t:TypeId) (base x:Operand) (dst:Option Nat) (ps:PS) (K:PS->Prop):Prop where
 h:AppOk t base x dst ps K\/AppM t base x dst ps K
def oneC:PV->Bool
 |.osl _ _ _ _=>true| _=>false
def zHX:List (Nat×Operand)->Bool
 |[]=>true| _=>false
def zI0:Option (List (List PV))->Option (Nat×Nat×(Unit->Nat)×(Unit->Nat))
 |some [[.osl k s o len]]=>some (k,s,o,len)| _=>none
def isFm:List PV->Bool
 |[.nil,.ff,.nil,.nil]=>true| [.int _ _,.int _ _,.int _ _,.int _ _,.ff,.nil,.nil]=>true| _=>false
structure BldK (n:Nat) (els:List (List PV)) (d:Nat) (ps:PS) (K:PS->Prop):Prop where
 h:K (put ps (some d) (slOf els))\/(yH d ps=true/\K ⟨v7 ps.tmps d (.osl d n (fun _=>0) (fun _=>(zS els).length)),ps.objs++[(d,.arr n (fun _=>zS els))]⟩)
structure MapOk (t:TypeId):Prop where
 h:∃ k e,zUD t k e
structure MapRoom (ks:Unit->List Int):Prop where
 h:(ks ()).length<1099511627776
structure KeyOk (k:Unit->Int):Prop where
 h:(Lit.int .i64 (k ())).wf=true
def isAp:List PV->Bool
 |[]=>true| .aptr _ _ _ _::r=>isAp r| _=>false
def zMH:List (List PV)->Option (List PV)
 |[]=>some []| [v]::r=>(match zMH r with|some l=>some (v::l)|none=>none)| _=>none
def apK (z:List PV) (x:Option (List (List PV))):Option (List PV) :=
 match z with
 |[.nilp]=>(match x with
  |some els=>(match zMH els with
   |some cs=>(match isAp cs with|true=>some cs|false=>none)| none=>none)
  |none=>none)
 |_=>none
def zFG (d:Nat) (cs:List PV) (ps:PS) (K:PS->Prop):Prop :=
 (match yH d ps with|true=>K ⟨v7 ps.tmps d (.ptr d 0),ps.objs++[(d,.box cs)]⟩|false=>False)
def yAQ (objs:List (Nat×Obj')):PV->Bool
 |.aptr n _ _ _=>(match yG objs n with
  |some (.mat _ _ _)=>true| _=>false)
 |_=>false
structure LoadM (t:TypeId) (a:Operand) (dst:Option Nat) (ps:PS) (K:PS->Prop):Prop where
 h:∃ ps',Wk ps ps'/\sop ps'.objs (.load t a) (ev (zB ps'.tmps)) (fun v=>K (put ps' dst v))
def bH (o : Oper) (ps : PS) (K : PS → Prop) : Prop :=
  match o.op with
  | .load t a => (match yAQ ps.objs (ev (zB ps.tmps) a) with
    | true => LoadM t a o.dst ps K
    | false => sop ps.objs o.op (ev (zB ps.tmps)) (fun v => K (put ps o.dst v)))
  | .alloc t => match o.dst with
    | some d => (match (ty t).isNo with | true => False | false => zFG d (ty t).zero ps K)
    | none => False
  | .box t x => match o.dst with
    | some d => (match gO (ev (zB ps.tmps) x) with | true => zFG d (yM (ev (zB ps.tmps) x)) ps K | false => False)
    | none => False
  | .store t a v => match ev (zB ps.tmps) a with
    | .ptr n off => match yG ps.objs n with
      | some (.box cs) => (match nqb (yM (ev (zB ps.tmps) v)).length (ty t).cells && nle (off + (ty t).cells) cs.length && nlt 0 (ty t).cells && yR pW (yM (ev (zB ps.tmps) v)) with | true => K (put ⟨ps.tmps, setO ps.objs n (.box (uT cs off (yM (ev (zB ps.tmps) v))))⟩ o.dst .any) | false => False)
      | _ => False
    | .aptr n s i off => match yG ps.objs n with
      | some (.arr s' els) => (match nqb s s' && nqb (yM (ev (zB ps.tmps) v)).length (ty t).cells && nle (off + (ty t).cells) s && nlt 0 (ty t).cells && yR o5 (yM (ev (zB ps.tmps) v)) with | true => ElOk s els i (fun c => K (put ⟨ps.tmps, setO ps.objs n (.arr s (fun _ => (els ()).set (i ()) (wB (uT c off (yM (ev (zB ps.tmps) v))))))⟩ o.dst .any)) | false => False)
      | some (.mat s' rows hs) => (match nqb s 1 && nqb off 0 && nqb (ty t).cells 1 && oneC (ev (zB ps.tmps) v) with | true => StoH hs i (ev (zB ps.tmps) v) (fun hs' => K (put ⟨ps.tmps, setO ps.objs n (.mat s' rows hs')⟩ o.dst .any)) | false => False)
      | _ => False
    | _ => False
  | .buildSlice t len parts => match o.dst, ty t with
    | some d, .sli n _ z => (match zI0 (sB n (vZ (ev (zB ps.tmps)) parts.toList) (s5 z len)) with
      | some (k, s, o', len') => (match nqb n 1 && nqb len 1 && !(nqb k d) && yH d ps with | true => K ⟨v7 ps.tmps d (.osl d 1 (fun _ => 0) (fun _ => 1)), ps.objs ++ [(d, .mat s (fun _ => [[]]) [(.osl k s o' len', fun _ => 0)])]⟩ | false => False)
      | none => (match nqb len 0 && zHX parts.toList with
        | true => (match yH d ps with | true => K ⟨v7 ps.tmps d (.osl d n (fun _ => 0) (fun _ => 0)), ps.objs ++ [(d, .arr n (fun _ => []))]⟩ | false => False)
        | false => (match apK z (sB n (vZ (ev (zB ps.tmps)) parts.toList) (s5 z len)) with
         | some cs => (match nqb cs.length len && nqb n 1 && nle len 1000 && yH d ps && wD d cs with | true => K ⟨v7 ps.tmps d (.osl d 1 (fun _ => 0) (fun _ => len)), ps.objs ++ [(d, .box cs)]⟩ | false => False)
         | none => (match isFm z with
          | true => (match sB n (vZ (ev (zB ps.tmps)) parts.toList) (s5 z len) with
            | some els => (match nle (len * n) 1000 && mQ els with | true => BldK n els d ps K | false => False)
            | none => False)
          | false => sop ps.objs o.op (ev (zB ps.tmps)) (fun v => K (put ps o.dst v))))))
    | _, _ => sop ps.objs o.op (ev (zB ps.tmps)) (fun v => K (put ps o.dst v))
  | .makeSlice t l c => match ty t, o.dst, ev (zB ps.tmps) l, ev (zB ps.tmps) c with
    | .sli n b z, some d, .int .i64 x, .int .i64 y => Room y b ∧ MkOk x y ∧ ((match yH d ps && yR o5 z with | true => K ⟨v7 ps.tmps d (.osl d n (fun _ => 0) (fun _ => (x ()).toNat)), ps.objs ++ [(d, .arr n (fun _ => List.replicate (x ()).toNat (wB z)))]⟩ | false => False))
    | _, _, _, _ => False
  | .call c => match c.callee with
    | .value g => CallOk g c.args.toList o.dst ps K
    | .builtin .append => match c.args.toList, c.argTypes.toList with
      | [b, x], [t, tx] => (match lQ (ty tx) with | true => AppK t b x o.dst ps K | false => False)
      | _, _ => False
    | .builtin _ => sop ps.objs o.op (ev (zB ps.tmps)) (fun v => K (put ps o.dst v))
    | _ => False
  | .makeMap t none => match o.dst with
    | some d => (match yH d ps with | true => MapOk t ∧ K ⟨v7 ps.tmps d (.mpv d), ps.objs ++ [(d, .mp t (fun _ => []))]⟩ | false => False)
    | none => False
  | .lookup t m x false => match ev (zB ps.tmps) m, ev (zB ps.tmps) x with
    | .mpv n, .int .i64 k => match yG ps.objs n with
      | some (.mp t' ks) => (match nqb t t' with | true => KeyOk k ∧ K (put ps o.dst (.bool (fun _ => decide (k () ∈ ks ())))) | false => False)
      | _ => False
    | _, _ => False
  | .mapUpdate t m x v => match ev (zB ps.tmps) m, ev (zB ps.tmps) x, ev (zB ps.tmps) v with
    | .mpv n, .int .i64 k, .tt => match yG ps.objs n with
      | some (.mp t' ks) => (match nqb t t' with | true => KeyOk k ∧ MapRoom ks ∧ K (put ⟨ps.tmps, setO ps.objs n (.mp t (fun _ => k () :: ks ()))⟩ o.dst .any) | false => False)
      | _ => False
    | _, _, _ => False
  | .binOp .eql t x (.const (.slice none 0 0)) _ => match ty t, ev (zB ps.tmps) x with
    | .sli _ _ _, .sl els => NilCmp els (fun v => K (put ps o.dst v))
    | .sli _ _ _, .osl _ _ _ len => NilLen len (fun v => K (put ps o.dst v))
    | .sli _ _ _, .nil => K (put ps o.dst (.bool (fun _ => true)))
    | _, _ => False
  | .binOp .neq t x (.const (.slice none 0 0)) _ => match ty t, ev (zB ps.tmps) x with
    | .sli _ _ _, .sl els => NilCmp els (fun v => K (put ps o.dst (notV v)))
    | .sli _ _ _, .osl _ _ _ len => NilLen len (fun v => K (put ps o.dst (notV v)))
    | .sli _ _ _, .nil => K (put ps o.dst (.nbool (fun _ => true)))
    | _, _ => False
  | op => sop ps.objs op (ev (zB ps.tmps)) (fun v => K (put ps o.dst v))
def qP (all:List Oper):List Oper->PS->(PS->Prop)->Prop
 |[],ps,K=>K ps| o::r,ps,K=>qS all o (zB ps.tmps) (fun _=>bH o ps (fun ps'=>lN all o ps' (fun ps''=>qP all r ps'' K))) (fun _=>qP all r (put ps o.dst (.tup [])) K)
def fT:List Oper->Bool
 |[]=>true
 |o::r=>(match o.dst with
  |none=>true| some d=>r.all fun x=>!(x.dst == some d))&&fT r
def jC (ops : List Oper) (o : Oper) : List Nat :=
  (o.op.operands.toList.filterMap fun | .tmp t => some t | _ => none) ++
  (match o.guard with
   | some (g, _) => ((ops[g]?).bind (·.dst)).toList
   | none => [])
def iU (acc:List Nat) (o:Oper):Nat:=o.after.toList.foldl (fun s e=>if Region.binds .any e then s ||| (2^e.on ||| acc.getD e.on 0) else s) 0
def zUB:List Oper->List Nat->List Nat
 |[],acc=>acc| o::r,acc=>zUB r (acc++[iU acc o])
def anc (ops:List Oper):List Nat:=zUB ops []
def fW (ops:List Oper) (k:Nat):Bool :=
 let an:=anc ops
 fT (ops.take k) &&
 (List.range k).all (fun i=>match ops[i]? with
  |some o=>(jC ops o).all fun t=>(List.range k).all fun j=>match ops[j]? with
   |some oj=>!(oj.dst == some t) || ((decide (j<i)&&(an.getD i 0).testBit j) || (decide (i<j)&&(an.getD j 0).testBit i))| none=>true
  |none=>false) &&
 (List.range ops.length).all (fun i=>match ops[i]? with
  |some o=>o.after.toList.all fun e=>!(Region.binds .any e) || decide (e.on<i)| none=>false) &&
 (List.range ops.length).all (fun i=>decide (i<k) || (List.range i).all fun j=>(an.getD i 0).testBit j)
def wW (o:Oper):Option (Nat×Obj') :=
 match o.guard with
 |some _=>none
 |none=>match o.op with
  |.alloc t=>(match (ty t).isNo with
   |true=>none
   |false=>match o.dst with
    |some d=>some (d,.box (ty t).zero)| none=>none)
  |_=>none
def yO:List Oper->List (Nat×Obj')
 |[]=>[]
 |o::r=>match wW o with
  |some x=>x::yO r| none=>yO r
def dZ (all:List Oper):List Oper->PS->(PS->Prop)->Prop
 |[],ps,K=>K ps
 |o::r,ps,K=>match wW o with
  |some (d,_)=>dZ all r (put ps (some d) (.ptr d 0)) K| none=>qS all o (zB ps.tmps) (fun _=>j6 true ps.objs o.op (ev (zB ps.tmps)) (fun v=>lN all o (put ps o.dst v) (fun ps'=>dZ all r ps' K))) (fun _=>dZ all r (put ps o.dst (.tup [])) K)
def mfT (n:Nat):List (Nat×PV)->Bool
 |[]=>true
 |(t,v)::r=>(match t == n with
  |true=>true| false=>xS n v)&&mfT n r
def mkIn (ps:PS):List (Nat×Obj')->Bool
 |[]=>true| (n,_)::r=>yH n ps&&mkIn ps r
def zE2 (T:List (Nat×PV)):List (Nat×Obj')->Bool
 |[]=>true| (n,_)::r=>mfT n T&&zE2 T r
def zQJ (o:Oper):Bool :=
 match o.op with
 |.load _ _=>false| _=>true
def zTZ (ops:List Oper) (k i0:Nat) (us:List Nat):Bool :=
 nlt i0 k&&(match ops[i0]? with
  |some o=>(match o.guard,o.dst,o.op with
   |none,none,.store _ _ _=>true| _,_,_=>false)
  |none=>false) &&
 (List.range k).all (fun i=>nqb i i0 || (match ops[i]? with
  |some o=>zQJ o || (nlt i i0&&((anc ops).getD i0 0).testBit i) || (nlt i0 i&&((anc ops).getD i 0).testBit i0) || (nlt i i0&&yE i us)| none=>false))
def usWp (all:List Oper) (us:List Nat) (n:Nat):List Oper->Nat->PS->(PS->Prop)->Prop
 |[],_,ps,K=>K ps| o::r,i,ps,K=>qS all o (zB ps.tmps) (fun _=>j6 false (match yE i us with|true=>xO ps.objs n|false=>ps.objs) o.op (ev (zB ps.tmps)) (fun v=>lN all o (put ps o.dst v) (fun ps'=>usWp all us n r (i+1) ps' K))) (fun _=>usWp all us n r (i+1) (put ps o.dst (.tup [])) K)
def stTo (us:List Nat) (n:Nat) (o:Oper) (ps:PS):Bool :=
 match us with
 |[]=>true
 |_=>(match o.op with
  |.store _ a _=>(match ev (zB ps.tmps) a with
   |.ptr m _=>nqb m n| .aptr m _ _ _=>nqb m n| _=>false)
  |_=>false)
def zTY (ops:List Oper) (k i0 n:Nat) (us:List Nat) (ps:PS) (K:PS->Prop):Prop :=
 usWp ops us n (ops.take i0) 0 ps (fun p1=>match ops[i0]? with
  |some o=>stTo us n o p1=true/\bH o p1 (fun p2=>pI false ops ((ops.take k).drop (i0+1)) p2 (fun p3=>qP ops (ops.drop k) p3 K))| none=>False)
structure Eff1 (g:Operand) (as_:List Operand) (T:List (Nat×PV)) (o:Option Obj') (n:Nat) (K:PV->Obj'->Prop):Prop where
 h:∃ (f:FuncId) (caps:List PV) (hn:Nat->Nat) (cargs:List PV) (m:Nat) (x:Obj') (r:PV) (x':Obj'),ev (zB T) g=.fn f caps /\
  LeL (evs (ev (zB T)) as_++caps) (renL hn cargs)/\Sound f cargs [(m,x)] [] r [(m,x')] []/\hn m=n/\o=some x/\pY x=true/\pY x'=true /\
  yR lv cargs=true/\lv r=true/\nmIn [m] r=true/\K (ren hn r) x'
def zI1 (ms:List (Nat×Obj')) (cs:List PV):Bool :=
 match ms with
 |[]=>true| (d,_)::r=>wD d cs&&zI1 r cs
def eff1 (ms:List (Nat×Obj')) (o:Oper) (n:Nat) (T:List (Nat×PV)) (O:List (Nat×Obj')) (K:PV->Obj'->Prop):Prop :=
 match o.guard with
 |some _=>False
 |none=>match o.op with
  |.store t a v=>(match o.dst with
   |some _=>False
   |none=>match ev (zB T) a with
    |.ptr m off=>(match nqb m n with
     |true=>(match yG O n with
      |some (.box cs)=>(match nqb (yM (ev (zB T) v)).length (ty t).cells&&nle (off+(ty t).cells) cs.length&&nlt 0 (ty t).cells&&yR pW (yM (ev (zB T) v))&&zI1 ms (uT cs off (yM (ev (zB T) v))) with
       |true=>K .any (.box (uT cs off (yM (ev (zB T) v))))| false=>False)
      |_=>False)
     |false=>False)
    |_=>False)
  |.call c=>(match c.callee with
   |.value g=>Eff1 g c.args.toList T (yG O n) n K| _=>False)
  |_=>False
def yQ:List (Nat×Nat)->Nat->Option Nat
 |[],_=>none| (i,n)::r,j=>(match nqb i j with|true=>some n|false=>yQ r j)
def efWp (all:List Oper) (es:List (Nat×Nat)) (ms lim:List (Nat×Obj')):List Oper->Nat->List (Nat×PV)->List (Nat×Obj')->(List (Nat×PV)->List (Nat×Obj')->Prop)->Prop
 |[],_,T,O,K=>K T O
 |o::r,i,T,O,K=>match wW o with
  |some (d,x)=>efWp all es ms lim r (i+1) (v7 T d (.ptr d 0)) (O++[(d,x)]) K
  |none=>match yQ es i with
   |some n=>eff1 ms o n T O (fun v x=>efWp all es ms lim r (i+1) (put ⟨T,[]⟩ o.dst v).tmps (setO O n x) K)| none=>qS all o (zB T) (fun _=>j6 true lim o.op (ev (zB T)) (fun v=>lN all o (put ⟨T,[]⟩ o.dst v) (fun p=>efWp all es ms lim r (i+1) p.tmps O K))) (fun _=>efWp all es ms lim r (i+1) (put ⟨T,[]⟩ o.dst (.tup [])).tmps O K)
def kL:List (Nat×Nat)->List Nat
 |[]=>[]| (_,n)::r=>n::kL r
def zMC:List Nat->Bool
 |[]=>true| n::r=>!(yE n r)&&zMC r
def efOk (ops:List Oper) (k:Nat) (es:List (Nat×Nat)):Bool :=
 zMC (kL es)&&es.all (fun e=>nlt e.1 k&&(match ops[e.1]? with
  |some o=>(match wW o with
   |some _=>false| none=>true)
  |none=>false)&&(List.range k).all fun j=>match ops[j]? with
  |some oj=>(match wW oj with
   |some (d,_)=>!(nqb d e.2) || ((anc ops).getD e.1 0).testBit j| none=>true)
  |none=>true)
def scA (P:List Nat):PV->PV
 |.agg _=>.any| .tup _=>.any| .fn _ _=>.any| .ptr m off=>(match yE m P with|true=>.any|false=>.ptr m off)| .aptr m s i off=>(match yE m P with|true=>.any|false=>.aptr m s i off)| .osl m s i len=>(match yE m P with|true=>.any|false=>.osl m s i len)| .mpv m=>(match yE m P with|true=>.any|false=>.mpv m)| v=>v
def scB (P:List Nat):PV->PV
 |.agg cs=>.agg (vG (scA P) cs)| .tup cs=>.tup (vG (scA P) cs)| .fn f cs=>.fn f (vG (scA P) cs)| v=>scA P v
def scC (P:List Nat):PV->PV
 |.agg cs=>.agg (vG (scB P) cs)| .tup cs=>.tup (vG (scB P) cs)| .fn f cs=>.fn f (vG (scB P) cs)| v=>scA P v
structure EffA (t : TypeId) (x : Operand) (v : PV) (T : List (Nat × PV)) (o : Option Obj') (n : Nat) (K : PV → Obj' → Prop) : Prop where
  h : ∃ (s b : Nat) (z : List PV) (xs : Unit → List (List D)) (lg : Bool) (els : Unit → List (List D)), ty t = .sli s b z ∧ (ev (zB T) x = .sl xs ∨ (ev (zB T) x = .nil ∧ xs () = [])) ∧ Wid s xs ∧
    o = some (gY lg s els) ∧ ((∃ o' len : Unit → Nat, v = .osl n s o' len ∧ o' () = 0 ∧ len () = (els ()).length ∧ Room (fun _ => (((els ()).length + (xs ()).length : Nat) : Int)) b ∧
      K (.osl n s (fun _ => 0) (fun _ => (els ()).length + (xs ()).length)) (gY lg s (fun _ => els () ++ xs ()))) ∨
     (jD v = true ∧ Room (fun _ => ((xs ()).length : Nat)) b ∧ K (.osl n s (fun _ => 0) (fun _ => (xs ()).length)) (.arr s xs)))
def fixP (n:Nat):PV->Bool
 |.osl m _ _ _=>nqb m n| .agg _=>false| .tup _=>false| .fn _ _=>false| .ptr _ _=>false| .aptr _ _ _ _=>false| .mpv _=>false| _=>true
def yAP:Operand->Bool
 |.tmp _=>false| _=>true
structure EffC (g:Operand) (as_:List Operand) (T:List (Nat×PV)) (o:Option Obj') (n:Nat) (K:PV->Obj'->Prop):Prop where
 h:∃ (f:FuncId) (caps:List PV) (hn:Nat->Nat) (cargs:List PV) (m k s:Nat) (els els':Unit->List (List D)) (o' l':Unit->Nat),ev (zB T) g=.fn f caps/\yAP g=true /\
  LeL (evs (ev (zB T)) as_++caps) (renL hn cargs)/\Sound f cargs [] [(m,.arr s els)] (.osl k s o' l') [] [(k,.arr s els')]/\hn m=n/\hn k=n/\o=some (.arr s els)/\yR lv cargs=true /\
  yR (fixP n) (evs (ev (zB T)) as_)=true/\K (.osl n s o' l') (.arr s els')
def effA (o:Oper) (n:Nat) (T:List (Nat×PV)) (O:List (Nat×Obj')) (K:PV->Obj'->Prop):Prop :=
 match o.guard with
 |some _=>False
 |none=>match o.op with
  |.call c=>(match c.callee with
   |.builtin .append=>(match c.args.toList,c.argTypes.toList,o.dst with
    |[b,x],[t,tx],some d=>(match lQ (ty tx)&&nqb d n with
     |true=>EffA t x (ev (zB T) b) T (yG O n) n K| false=>False)
    |_,_,_=>False)
   |.value g=>(match o.dst with
    |some d=>(match nqb d n with
     |true=>EffC g c.args.toList T (yG O n) n K| false=>False)
    |none=>False)
   |_=>False)
  |_=>False
def fF (an:List Nat) (i:Nat):List (Nat×Nat)->List Nat
 |[]=>[]| (e,m)::r=>(match (an.getD e 0).testBit i with|true=>fF an i r|false=>m::fF an i r)
def apWp (all:List Oper) (es:List (Nat×Nat)) (an:List Nat) (lim:List (Nat×Obj')):List Oper->Nat->List (Nat×PV)->List (Nat×Obj')->(List (Nat×PV)->List (Nat×Obj')->Prop)->Prop
 |[],_,T,O,K=>K T O
 |o::r,i,T,O,K=>match yQ es i with
  |some n=>effA o n T O (fun v x=>apWp all es an lim r (i+1) (put ⟨T,[]⟩ o.dst v).tmps (setO O n x) K)| none=>qS all o (zB (wV (scC (fF an i es)) T)) (fun _=>j6 false (y4 (scC (fF an i es)) lim) o.op (ev (zB (wV (scC (fF an i es)) T))) (fun v=>lN all o (put ⟨T,[]⟩ o.dst v) (fun p=>apWp all es an lim r (i+1) p.tmps O K))) (fun _=>apWp all es an lim r (i+1) (put ⟨T,[]⟩ o.dst (.tup [])).tmps O K)
def sA (P:List Nat):List (Nat×PV)->List (Nat×PV)
 |[]=>[]| (t,v)::r=>(t,(match yE t P with|true=>v|false=>scC P v))::sA P r
def apOk (k:Nat) (es:List (Nat×Nat)):Bool :=
 zMC (kL es)&&es.all (fun e=>nlt e.1 k&&nlt e.2 1000000&&(match yQ es e.1 with|some n=>nqb n e.2|none=>false))
def zO4 (o:Oper) (l:List Bool):Bool:=o.after.toList.all fun e=>!(Region.binds .any e) || l.getD e.on false
def rdyL (ops:List Oper) (l:List Bool):List Nat:=(List.range ops.length).filter fun i=>!(l.getD i true)&&(match ops[i]? with|some o=>zO4 o l|none=>false)
def calm (o:Oper) (τ:Nat->PV):Bool :=
 match o.op with
 |.move _=>true| .nilCheck x=>(match ev τ x with|.ptr _ _=>true|_=>false)| .fieldAddr t x i=>(match ty t,ev τ x with|.st _ fs _,.ptr _ _=>(match fs[i]? with|some _=>true|none=>false)|.st _ fs _,.aptr _ _ _ _=>(match fs[i]? with|some _=>true|none=>false)|_,_=>false)| _=>false
def zG4 (o:Oper):Bool:=match o.guard with|some _=>false|none=>true
def zK6 (ops:List Oper) (l:List Bool) (τ:Nat->PV):List Nat->Option Nat
 |[]=>none
 |i::r=>(match ops[i]? with
  |some o=>(match calm o τ&&zG4 o&&Region.free .any ops.toArray l.toArray i with|true=>some i|false=>zK6 ops l τ r)| none=>zK6 ops l τ r)
def zQD (ops:List Oper) (j:Nat) (ps:PS) (K:PS->Prop):Prop :=
 match ops[j]? with
 |some o=>(match zG4 o with|true=>bH o ps K|false=>False)| none=>False
def allW (f:Nat->Prop):List Nat->Prop
 |[]=>True| i::r=>f i/\allW f r
def zG8 (ops:List Oper):Nat->List Bool->PS->(PS->Prop)->Prop
 |0,l,ps,K=>(match rdyL ops l with|[]=>K ps|_::_=>False)
 |f+1,l,ps,K=>(match rdyL ops l with
  |[]=>K ps
  |i::r=>(match zK6 ops l (zB ps.tmps) (i::r) with
   |some j=>zQD ops j ps (fun ps'=>zG8 ops f (l.set j true) ps' K)| none=>allW (fun j=>zQD ops j ps (fun ps'=>zG8 ops f (l.set j true) ps' K)) (i::r)))
inductive DrawK (ops:List Oper) (ps:PS) (K:PS->Prop):Prop where
 |of (k:Nat) (ps':PS) (hw:Wk ps ps') (hd:fW ops k=true) (hs:pI true ops (ops.take k) ps' (fun ps''=>qP ops (ops.drop k) ps'' K)):DrawK ops ps K
 |mk (k:Nat) (ps':PS) (hw:Wk ps ps') (hd:fW ops k=true) (hm:(ndO (yO (ops.take k))&&mkIn ps' (yO (ops.take k)))=true)
  (hs:dZ ops (ops.take k) ps' (fun ps''=>zE2 ps''.tmps (yO (ops.take k))=true/\qP ops (ops.drop k) ⟨ps''.tmps,ps''.objs++yO (ops.take k)⟩ K)):DrawK ops ps K
 |st (k i0 n:Nat) (us:List Nat) (ps':PS) (hw:Wk ps ps') (hd:fW ops k=true) (hm:zTZ ops k i0 us=true) (hs:zTY ops k i0 n us ps' K):DrawK ops ps K
 |ef (k:Nat) (es:List (Nat×Nat)) (ps':PS) (hw:Wk ps ps') (hd:fW ops k=true) (he:efOk ops k es=true) (hm:(ndO (yO (ops.take k))&&mkIn ps' (yO (ops.take k)))=true)
  (hs:efWp ops es (yO (ops.take k)) (j9 (kL es) ps'.objs) (ops.take k) 0 ps'.tmps ps'.objs (fun T O=>zE2 T (yO (ops.take k))=true/\qP ops (ops.drop k) ⟨T,O⟩ K)):DrawK ops ps K
 |ap (k:Nat) (es:List (Nat×Nat)) (ps':PS) (hw:Wk ps ps') (hd:fW ops k=true) (he:apOk k es=true)
  (hs:apWp ops es (anc ops) (j9 (kL es) ps'.objs) (ops.take k) 0 ps'.tmps ps'.objs (fun T O=>qP ops (ops.drop k) ⟨sA (kL es) T,y4 (scC (kL es)) O⟩ K)):DrawK ops ps K
 |br (σ:Type) (inv:σ->PS) (good:σ->Prop) (ps':PS) (hw:Wk ps ps') (hsel:Region.noSelect ops.toArray=true) (hs:zG8 ops ops.length (List.replicate ops.length false) ps' (fun q=>∃ s,good s/\Wk q (inv s))) (hks:∀ s,good s->K (inv s)):DrawK ops ps K
def zG5 {σ:Type} (inv:σ->PS) (good:σ->Prop) (Q:Exit->PS->Prop):Exit->PS->Prop
 |.normal,ps'=>∃ s,good s/\Wk ps' (inv s)| e,ps'=>Q e ps'
structure Cut (b:Unit->Bool) (A B:(Exit->PS->Prop)->Prop) (Q:Exit->PS->Prop):Prop where
 h:((b ()=true->A Q)/\(b ()=false->B Q)) \/
  ∃ (σ:Type) (inv:σ->PS) (good:σ->Prop),(b ()=true->A (zG5 inv good Q))/\(b ()=false->B (zG5 inv good Q))/\∀ s,good s->Q .normal (inv s)
structure LoopOk (B:PS->(Exit->PS->Prop)->Prop) (ps:PS) (Q:Exit->PS->Prop):Prop where
 h:∃ (σ:Type) (inv:σ->PS) (good:σ->Prop) (mu:σ->Nat) (s0:σ),good s0/\Wk ps (inv s0) /\
  ∀ s,good s->B (inv s) (fun e ps'=>match e with
   |.normal=>∃ s',good s'/\mu s'<mu s/\Wk ps' (inv s')| e=>Q e ps')
def zT9:List Oper->List Nat->Bool
 |[],_=>false
 |o::r,ds=>(match o.guard with
  |none=>zT9 r (ds++[0])| some (j,_)=>(match nle 2 (ds.getD j 0) with|true=>true|false=>zT9 r (ds++[ds.getD j 0+1])))
structure RegK (ops:List Oper) (ps:PS) (K:PS->Prop):Prop where
 h:qP ops ops ps K\/∃ (σ:Type) (inv:σ->PS) (good:σ->Prop),qP ops ops ps (fun ps'=>∃ s,good s/\Wk ps' (inv s))/\∀ s,good s->K (inv s)
def wp:Code->PS->(Exit->PS->Prop)->Prop
 |.skip,ps,Q=>Q .normal ps| .region _ ops false,ps,Q=>(match zT9 ops.toList [] with|true=>RegK ops.toList ps (Q .normal)|false=>qP ops.toList ops.toList ps (Q .normal))| .region _ ops true,ps,Q=>DrawK ops.toList ps (Q .normal)
 |.seq a b,ps,Q=>wp a ps fun e ps'=>match e with
   |.normal=>wp b ps' Q| e=>Q e ps'
 |.cond c a b,ps,Q=>match ev (zB ps.tmps) c with
   |.tt=>wp a ps Q| .ff=>wp b ps Q| .bool x=>Cut x (fun Q=>wp a ps Q) (fun Q=>wp b ps Q) Q| .nbool x=>Cut x (fun Q=>wp b ps Q) (fun Q=>wp a ps Q) Q| _=>False
 |.block id b,ps,Q=>wp b ps fun e ps'=>match e with
   |.exit i=>(match nqb i id with|true=>Q .normal ps'|false=>Q (.exit i) ps')| e=>Q e ps'
 |.exit id,ps,Q=>Q (.exit id) ps| .ret,ps,Q=>Q .ret ps| .loop b,ps,Q=>LoopOk (fun ps Q=>wp b ps Q) ps Q| .label _,ps,Q=>Q .normal ps
 |.scope b,ps,Q=>wp b ps fun e ps'=>match e with
   |.goto _=>False| e=>Q e ps'
 |_,_,_=>False
def rdV (t:Ty) (cs:List PV) (off:Nat):Option PV :=
 (match t.isNo with|true=>none|false=>(match nle (off+t.cells) cs.length with|true=>some ((match t.isA with|true=>.agg ((cs.drop off).take t.cells)|false=>cs.getD off .any))|false=>none))
def dJ (ps:PS):List ResultVar->Option (List PV)
 |[]=>some []
 |.tmp t::r=>match dJ ps r with
  |some l=>some (zB ps.tmps t::l)| none=>none
 |.cell a t::r=>match zB ps.tmps a with
  |.ptr n off=>match yG ps.objs n with
   |some (.box cs)=>match rdV (ty t) cs off,dJ ps r with
    |some v,some l=>some (v::l)| _,_=>none
   |_=>none
  |_=>none
def lD:List PV->PV
 |[v]=>v| l=>.tup l
def zFI (h:Nat->Nat):List (Nat×Obj')->Prop
 |[]=>True| (n,_)::r=>(h n=n/\1000000<=n)/\zFI h r
structure RetOk (rs:List ResultVar) (r:PV) (kept' made:List (Nat×Obj')) (ps:PS):Prop where
 h:∃ ps' l hn,Wk ps ps'/\dJ ps' rs=some l/\Le (lD l) (ren hn r)/\lv r=true/\kF hn ps'.objs (kept'++made)/\ndO (z5 hn (kept'++made))=true/\zFI hn kept'
def dK (rs:List ResultVar) (r:PV) (kept' made:List (Nat×Obj')):Exit->PS->Prop
 |.normal,ps=>RetOk rs r kept' made ps| .ret,ps=>RetOk rs r kept' made ps| _,_=>False
end Go.Proofs.YtaeaffgjdcigoaaGreat
