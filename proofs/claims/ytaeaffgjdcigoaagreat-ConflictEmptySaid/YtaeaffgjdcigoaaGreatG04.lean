/- A part of the proof: PmC. -/
import Derived.Test.YtaeaffgjdcigoaaGreatG03
set_option linter.all false
namespace Go.Proofs.YtaeaffgjdcigoaaGreat
open Go
def DU (n:Nat):List (Nat×Obj')->Bool
 |[]=>false| (m,_)::r=>nqb m n || DU n r
def ndO:List (Nat×Obj')->Bool
 |[]=>true| (n,_)::r=>!(DU n r)&&ndO r
def rn0 (h:Nat->Nat):PV->PV
 |.ptr m off=>.ptr (h m) off| .aptr m s i off=>.aptr (h m) s i off| .osl m s i len=>.osl (h m) s i len| .mpv m=>.mpv (h m)| v=>v
def rn1 (h:Nat->Nat):PV->PV
 |.agg cs=>.agg (vG (rn0 h) cs)| .tup cs=>.tup (vG (rn0 h) cs)| .fn f cs=>.fn f (vG (rn0 h) cs)| v=>rn0 h v
def ren (h:Nat->Nat):PV->PV
 |.agg cs=>.agg (vG (rn1 h) cs)| .tup cs=>.tup (vG (rn1 h) cs)| .fn f cs=>.fn f (vG (rn1 h) cs)| v=>rn0 h v
def oW (h:Nat->Nat):List PV->List PV:=vG (ren h)
def lv0:PV->Bool
 |.agg _=>false| .tup _=>false| .fn _ _=>false| _=>true
def lv1:PV->Bool
 |.agg cs=>yS lv0 cs| .tup cs=>yS lv0 cs| .fn _ cs=>yS lv0 cs| _=>true
def lv:PV->Bool
 |.agg cs=>yS lv1 cs| .tup cs=>yS lv1 cs| .fn _ cs=>yS lv1 cs| _=>true
def x9 (f:PV->PV):Obj'->Obj'
 |.box cs=>.box (vG f cs)| .arr s els=>.arr s els| .log s els=>.log s els| .lent s els=>.lent s els| .mat s rows hs=>.mat s rows (sP f hs)| .mp t ks=>.mp t ks
def Sa (p:PV->Bool):List (PV×(Unit->Nat))->Bool
 |[]=>true| (v,_)::r=>p v&&Sa p r
def bA:Obj'->Bool
 |.box cs=>yS lv cs| .arr _ _=>true| .log _ _=>false| .lent _ _=>false| .mat _ _ hs=>Sa lv hs| .mp _ _=>true
def H2 (l:List Nat):Obj'->Bool
 |.box cs=>yS (nmIn l) cs| .mat _ _ hs=>Sa (nmIn l) hs| _=>true
def bM (l:List Nat):List (Nat×Obj')->Bool
 |[]=>true| (_,o)::r=>(bA o&&H2 l o)&&bM l r
def cX:List Nat->PV->PV
 |[],v=>v| n::r,v=>cX r (scr n v)
def gC:List Nat->List (Nat×Obj')->List (Nat×Obj')
 |[],l=>l| n::r,l=>gC r (uD l n)
def uU (h:Nat->Nat) (l:List (Nat×Obj')):List (Nat×Obj')->Prop
 |[]=>True| (n,o)::r=>(yO l (h n)=some (x9 (ren h) o)/\bA o=true)/\uU h l r
def rE (h:Nat->Nat) (l:List (Nat×Obj')):List (Nat×Obj')->List (Nat×Obj')
 |[]=>l| (n,o)::r=>rE h (setO l (h n) (x9 (ren h) o)) r
def z9 (h:Nat->Nat):List (Nat×Obj')->List (Nat×Obj')
 |[]=>[]| (n,o)::r=>(h n,x9 (ren h) o)::z9 h r
def sO:List (Nat×Obj')->List Nat
 |[]=>[]| (n,_)::r=>n::sO r
structure CallS (nb:Bool) (objs:List (Nat×Obj')) (f:FuncId) (args:List PV) (K:PV->Prop):Prop where
 h:(∃ args' r,LeL args args'/\zD f args' r/\nmIn [] r=true/\K r) \/
  (nb=true/\∃ (hn:Nat->Nat) (cargs:List PV) (kept:List (Nat×Obj')) (r:PV),LeL args (oW hn cargs)/\Sound f cargs kept [] r kept []/\uU hn objs kept/\ndO (z9 hn kept)=true/\ndO kept=true /\
   bM (sO kept) kept=true/\yS lv cargs=true/\lv r=true/\nmIn (sO kept) r=true/\K (ren hn r))
structure EqS (op:BinOp) (t:TypeId) (x y:Operand) (a b:List Fld) (K:PV->Prop):Prop where
 h:∃ r:Bool,(∀ w:World,(do eqGuard op t x y (.agg (Zr a).toArray) (.agg (Zr b).toArray);binOp op t (.agg (Zr a).toArray) (.agg (Zr b).toArray):Sem Value).run Pg w=.ok (.bool r) w)/\K (.bool (λ_=>r))
def R5:PV->PV
 |.bool b=>.nbool b| v=>v
structure NilCmp (els:Unit->List (List D)) (K:PV->Prop):Prop where
 h:∀ b:Bool,(b=true->els ()=[])->K (.bool (λ_=>b))
structure NilLen (len:Unit->Nat) (K:PV->Prop):Prop where
 h:∀ b:Bool,(b=true->len ()=0)->K (.bool (λ_=>b))
structure StrRoom (a b:Unit->ByteArray):Prop where
 h:(a ()).size+(b ()).size<=9223372036854775807
def Dk (op:BinOp) (a b:Unit->ByteArray) (K:PV->Prop):Prop :=
 match op with
 |.add=>StrRoom a b/\K (.str (λ_=>a ()++b ()))| .eql=>K (.bool (λ_=>(a ()).toList == (b ()).toList))| .neq=>K (.nbool (λ_=>(a ()).toList == (b ()).toList))| _=>False
def Xc (ns:List Int):ByteArray:=ns.foldl (λr n=>r.push (UInt8.ofNat n.toNat)) ByteArray.empty
structure ToStr (src dst:TypeId) (els:Unit->List (List D)) (K:PV->Prop):Prop where
 h:(∃ e,Pg.underlying src=some (.slice e)/\Pg.underlying e=some (.int .u8))/\Pg.underlying dst=some .string/\∃ ns:List Int,els ()=ns.map (λn=>[D.int .u8 n])/\K (.str (λ_=>Xc ns))
def Gd:PV->Option Bool
 |.nilp=>some true| .ptr _ _=>some false| _=>none
def Cc (op:BinOp) (t:TypeId) (ox oy:Operand) (x y:PV) (K:PV->Prop):Prop :=
 match x,y with
 |.int k a,.int k' b=>DR op k a k' b K| .str a,.str b=>Dk op a b K
 |.agg l,.agg m=>match Z5 l,Z5 m with
  |some a,some b=>EqS op t ox oy a b K| _,_=>False
 |x,y=>match ty t with
  |.sc .ff=>match op,AW x,AW y with
   |.eql,some a,some b=>K (.bool (λ_=>decide (a ()=b ())))| .neq,some a,some b=>K (.nbool (λ_=>decide (a ()=b ())))| _,_,_=>False
  |.sc .nilp=>match op,Gd x,Gd y with
   |.eql,some a,some b=>(match a || b with|true=>K (.bool (λ_=>a&&b))|false=>False)| .neq,some a,some b=>(match a || b with|true=>K (.nbool (λ_=>a&&b))|false=>False)| _,_,_=>False
  |_=>False
structure AtOk (k:Unit->Int) (len:Nat) (K:Nat->Prop):Prop where
 h:∃ j:Nat,k ()=(j:Int)/\j<len/\K j
structure FrOk (i len:Unit->Nat) (els:Unit->List (List D)):Prop where
 h:i ()+len ()<=(els ()).length
def fo0 (n:Nat) (o:Obj'):PV->Prop
 |.osl m s i len=>(match nqb m n with
  |true=>(match VH o with
   |some (_,els)=>FrOk i len els| none=>True)
  |false=>True)
 |_=>True
def VR (f:PV->Prop):List PV->Prop
 |[]=>True| v::r=>f v/\VR f r
def fo1 (n:Nat) (o:Obj'):PV->Prop
 |.agg cs=>VR (fo0 n o) cs| .tup cs=>VR (fo0 n o) cs| .fn _ cs=>VR (fo0 n o) cs| v=>fo0 n o v
def fo (n:Nat) (o:Obj'):PV->Prop
 |.agg cs=>VR (fo1 n o) cs| .tup cs=>VR (fo1 n o) cs| .fn _ cs=>VR (fo1 n o) cs| v=>fo0 n o v
def NF (f:PV->Bool):List PV->Bool
 |[]=>false| v::r=>(match f v with|true=>true|false=>NF f r)
def DE (objs:List (Nat×Obj')):PV->Bool
 |.osl m _ _ _=>(match yO objs m with
  |some (.lent _ _)=>true| _=>false)
 |_=>false
def lnt (objs:List (Nat×Obj')):PV->Bool
 |.agg cs=>NF (DE objs) cs| v=>DE objs v
structure LdK (objs:List (Nat×Obj')) (v:PV) (K:PV->Prop):Prop where
 h:K v\/∃ n s els,yO objs n=some (.lent s els)/\fo n (.lent s els) v/\K (frz n (.lent s els) v)
def ldV (objs:List (Nat×Obj')) (v:PV) (K:PV->Prop):Prop :=
 match lnt objs v with
 |true=>LdK objs v K| false=>K v
structure AtN (i:Unit->Nat) (len:Nat) (K:Nat->Prop):Prop where
 h:i ()<len/\K (i ())
structure HoleK (hs:List (PV×(Unit->Nat))) (i:Unit->Nat) (K:PV->Prop):Prop where
 h:∃ v k,(v,k)∈hs/\k ()=i ()/\K v
def sop (objs:List (Nat×Obj')) (op:Op) (e:Operand->PV) (K:PV->Prop):Prop :=
 match op with
 |.move x=>K (e x)| .assign x=>K (e x)| .pick c a b=>brV (e c) (λ_=>K (e a)) (λ_=>K (e b))
 |.build t parts=>match ty t with
  |.st _ fs z=>match UO fs (v7 e parts.toList) z with
   |some cs=>K (.agg cs)| none=>False
  |.arr _ n _ z=>match UP n (v7 e parts.toList) z with
   |some cs=>K (.agg cs)| none=>False
  |_=>False
 |.buildSlice t len parts=>match ty t with
  |.sli n _ z=>match rM n (v7 e parts.toList) (pP z len) with
   |some els=>(match nle (len*n) 1000&&nS els with|true=>K (S7 els)|false=>False)| none=>False
  |_=>False
 |.load t a=>match e a with
  |.dptr cs off=>rdK (ty t) cs off K
  |.ptr n off=>match yO objs n with
   |some (.box cs)=>rdK (ty t) cs off (λv=>ldV objs v K)| _=>False
  |.aptr n s i off=>match yO objs n with
   |some (.arr s' els)=>(match nqb s s' with|true=>ElOk s els i (λc=>rdK (ty t) c off K)|false=>False)| some (.mat _ _ hs)=>(match nqb s 1&&nqb off 0 with|true=>HoleK hs i (λv=>rdK (ty t) [v] 0 K)|false=>False)| some (.box cs)=>(match nqb s 1&&nqb off 0 with|true=>AtN i cs.length (λj=>rdK (ty t) cs j K)|false=>False)| _=>False
  |_=>False
 |.binOp op t x y _=>Cc op t x y (e x) (e y) K
 |.unOp op _ x=>match op,e x with
  |.not,.tt=>K .ff| .not,.ff=>K .tt| .not,.bool b=>K (.nbool b)| .not,.nbool b=>K (.bool b)| .neg,.int k n=>arK k (λ_=>0-n ()) K| _,_=>False
 |.convert src dst x=>(match (ty src).isNo with
  |true=>False
  |false=>(match ty dst,e x with
   |.sc (.int k _),.int _ n=>K (.int k (λ_=>nx k (n ())))| .no,.sl els=>ToStr src dst els K| _,_=>False))
 |.fieldAddr t x i=>match ty t with
  |.st _ fs _=>match fs[i]? with
   |some (off,_,_)=>match e x with
    |.ptr n o=>K (.ptr n (o+off))| .aptr n s j o=>K (.aptr n s j (o+off))| .dptr cs o=>K (.dptr cs (o+off))| _=>False
   |none=>False
  |_=>False
 |.field t x i=>match ty t with
  |.st _ fs _=>match fs[i]? with
   |some (off,sz,ag)=>match ag with
    |true=>match e x with
     |.agg cs=>(match nle (off+sz) cs.length with|true=>K (.agg ((cs.drop off).take sz))|false=>False)| _=>False
    |false=>match e x with
     |.agg cs=>(match nqb sz 1&&nlt off cs.length with|true=>K (cs.getD off .any)|false=>False)| _=>False
   |none=>False
  |_=>False
 |.indexAddr t x i=>match ty t,e x,e i with
  |.sli n _ _,.sl els,.int _ k=>IdxOk n els k (λc=>K (.dptr c 0))| .sli n _ _,.osl m s o len,.int _ k=>(match nqb n s with|true=>Rng k len/\K (.aptr m s (λ_=>o ()+(k ()).toNat) 0)|false=>False)| .arr len n _ _,.ptr m o,.int _ k=>AtOk k len (λj=>K (.ptr m (o+j*n)))| _,_,_=>False
 |.index t x i=>match ty t,e x,e i with
  |.arr len 1 false _,.agg cs,.int _ k=>(match nqb len cs.length with|true=>AtOk k len (λj=>K (cs.getD j .any))|false=>False)| _,_,_=>False
 |.extract x i=>match e x with
  |.tup vs=>(match nlt i vs.length with|true=>K (vs.getD i .any)|false=>False)| _=>False
 |.slice t x lo hi none=>match ty t,e x with
  |.sli n _ _,.sl els=>match i8 e (λ_=>0) lo,i8 e (λ_=>((els ()).length:Nat)) hi with
   |some l,some h=>SlOk l h (λ_=>(els ()).length)/\Wid n els/\K (.sl (λ_=>((els ()).take (h ()).toNat).drop (l ()).toNat))| _,_=>False
  |.sli n _ _,.osl m s o len=>match i8 e (λ_=>0) lo,i8 e (λ_=>(len ():Nat)) hi with
   |some l,some h=>(match nqb n s with|true=>SlOk l h len/\SlNe l h/\K (.osl m s (λ_=>o ()+(l ()).toNat) (λ_=>(h ()).toNat-(l ()).toNat))|false=>False)| _,_=>False
  |.sli _ _ _,.nil=>match i8 e (λ_=>0) lo,i8 e (λ_=>0) hi with
   |some l,some h=>SlOk l h (λ_=>0)/\K .nil| _,_=>False
  |_,_=>False
 |.nilCheck x=>match e x with
  |.ptr n o=>K (.ptr n o)| .aptr n s i o=>K (.aptr n s i o)| .dptr c o=>K (.dptr c o)| _=>False
 |.makeFunc (.func f) first caps=>match first.toList with
  |[]=>K (.fn f (evs e caps.toList))| _=>False
 |.call c=>match c.callee with
  |.builtin .len=>match c.args.toList,c.argTypes.toList with
   |[x],[t]=>MZ (ty t) (e x) K| _,_=>False
  |.builtin .max=>match c.args.toList with
   |[x,y]=>match e x,e y with
    |.int .i64 a,.int .i64 b=>K (.int .i64 (λ_=>imax (a ()) (b ())))| _,_=>False
   |_=>False
  |.builtin .min=>match c.args.toList with
   |[x,y]=>match e x,e y with
    |.int .i64 a,.int .i64 b=>K (.int .i64 (λ_=>imin (a ()) (b ())))| _,_=>False
   |_=>False
  |.value f=>match e f with
   |.fn g caps=>CallS false [] g (evs e c.args.toList++caps) K| _=>False
  |_=>False
 |_=>False
def Zk:Ty->Bool
 |.sli _ _ _=>true| _=>false
def jK:PV->Bool
 |.nil=>true| .emp=>true| _=>false
def J6 (n b:Nat) (base x:PV) (K:PV->Prop):Prop :=
 match x with
 |.sl xs=>Wid n xs/\Room (λ_=>((xs ()).length:Nat)) b/\K (.sl xs)| .nil=>K base| _=>False
def YC (op:Op):Bool :=
 match op with
 |.call c=>(match c.callee with
  |.builtin .append=>true| _=>false)
 |_=>false
def A5 (op:Op) (e:Operand->PV) (K:PV->Prop):Prop :=
 match op with
 |.call c=>(match c.args.toList,c.argTypes.toList with
  |[b,x],[t,tx]=>(match Zk (ty tx) with
   |true=>(match ty t,jK (e b) with
    |.sli n bb _,true=>J6 n bb (e b) (e x) K| _,_=>False)
   |false=>False)
  |_,_=>False)
 |_=>False
def Ku (op:Op):Option Call :=
 match op with
 |.call c=>(match c.callee with
  |.value _=>some c| _=>none)
 |_=>none
def oG (objs:List (Nat×Obj')) (op:Op) (e:Operand->PV) (K:PV->Prop):Prop :=
 match Ku op with
 |none=>sop objs op e K
 |some c=>(match c.callee with
  |.value f=>(match e f with
   |.fn g caps=>CallS true objs g (evs e c.args.toList++caps) K| _=>False)
  |_=>False)
def bL (nb:Bool) (objs:List (Nat×Obj')) (op:Op) (e:Operand->PV) (K:PV->Prop):Prop :=
 match YC op with
 |true=>A5 op e K| false=>(match nb with|true=>oG objs op e K|false=>sop objs op e K)
def gdV (want:Bool) (v:PV) (A B:Unit->Prop):Prop :=
 match v with
 |.tup []=>B ()| v=>(match want with|true=>brV v A B|false=>brV v B A)
def j5 (all:List Oper) (o:Oper) (τ:Nat->PV) (A B:Unit->Prop):Prop :=
 match o.guard with
 |none=>A ()
 |some (j,want)=>match all[j]? with
  |some oj=>match oj.dst with
   |some d=>gdV want (τ d) A B| none=>False
  |none=>False
def isG (all:List Oper) (o:Oper):Bool :=
 match o.dst with
 |none=>false
 |some d=>all.any λo'=>match o'.guard with
  |none=>false
  |some (j,_)=>match all[j]? with
   |some oj=>match oj.dst with
    |some d'=>nqb d d'| none=>false
   |none=>false
def XZ (all:List Oper) (o:Oper) (ps:PS) (K:PS->Prop):Prop :=
 (match isG all o with
  |true=>(match o.dst with
  |some d=>match zF ps.tmps d with
   |.bool b=>Br b (λ_=>K ⟨uG ps.tmps d .tt,ps.objs⟩) (λ_=>K ⟨uG ps.tmps d .ff,ps.objs⟩)| .nbool b=>Br b (λ_=>K ⟨uG ps.tmps d .ff,ps.objs⟩) (λ_=>K ⟨uG ps.tmps d .tt,ps.objs⟩)| _=>K ps
  |none=>K ps)
  |false=>K ps)
structure LeS (a b:PV):Prop where
 h:Le a b
structure ElsEq (e e':Unit->List (List D)):Prop where
 h:e ()=e' ()
def jA (f:PV->PV->Prop):List PV->List PV->Prop
 |[],[]=>True| a::r,b::q=>f a b/\jA f r q| _,_=>False
def Ji:PV->PV->Prop
 |.agg a,.agg b=>jA LeS a b| .tup a,.tup b=>jA LeS a b| a,b=>LeS a b
def les:PV->PV->Prop
 |.agg a,.agg b=>jA Ji a b| .tup a,.tup b=>jA Ji a b| .fn f a,.fn g b=>nqb f g=true/\jA Ji a b| a,b=>LeS a b
structure RowsEq (e e':Unit->List (List (List D))):Prop where
 h:e ()=e' ()
def hLe:List (PV×(Unit->Nat))->List (PV×(Unit->Nat))->Prop
 |[],[]=>True| (v,k)::r,(v',k')::q=>(LeS v v'/\LeS (.int .i64 (λ_=>(k ():Int))) (.int .i64 (λ_=>(k' ():Int))))/\hLe r q| _,_=>False
structure KsEq (a b:Unit->List Int):Prop where
 h:a ()=b ()
def VB:Obj'->Obj'->Prop
 |.box a,.box b=>jA les a b| .arr s e,.arr s' e'=>nqb s s'=true/\ElsEq e e'| .log s e,.log s' e'=>nqb s s'=true/\ElsEq e e'| .lent s e,.lent s' e'=>nqb s s'=true/\ElsEq e e'| .lent s e,.log s' e'=>nqb s s'=true/\ElsEq e e'| .mat s r h,.mat s' r' h'=>nqb s s'=true/\RowsEq r r'/\hLe h h'| .mp t k,.mp t' k'=>nqb t t'=true/\KsEq k k'| _,_=>False
def leT (src:List (Nat×PV)):List (Nat×PV)->Prop
 |[]=>True| (t,v)::r=>les (zF src t) v/\leT src r
def leO (src:List (Nat×Obj')):List (Nat×Obj')->Prop
 |[]=>True
 |(n,o)::r=>(match yO src n with
  |some o'=>VB o' o| none=>False)/\leO src r
def tW:Obj'->Bool
 |.box cs=>yS iY cs| .arr _ _=>true| .log _ _=>false| .lent _ _=>false| .mat _ _ []=>true| .mat _ _ (_::_)=>false| .mp _ _=>false
def Y5:Obj'->Bool
 |.box cs=>yS iY cs| .mat _ _ _=>false| .mp _ _=>false| _=>true
def foT (n:Nat) (o:Obj'):List (Nat×PV)->Prop
 |[]=>True| (_,v)::r=>fo n o v/\foT n o r
def foH (n:Nat) (o:Obj'):List (PV×(Unit->Nat))->Prop
 |[]=>True| (v,_)::r=>fo n o v/\foH n o r
def foO (n:Nat) (o:Obj'):List (Nat×Obj')->Prop
 |[]=>True| (_,.box cs)::r=>VR (fo n o) cs/\foO n o r| (_,.arr _ _)::r=>foO n o r| (_,.log _ _)::r=>foO n o r| (_,.lent _ _)::r=>foO n o r| (_,.mat _ _ hs)::r=>foH n o hs/\foO n o r| (_,.mp _ _)::r=>foO n o r
def JC (n:Nat) (o:Obj') (ps:PS):PS:=⟨uI (frz n o) ps.tmps,xO (frz n o) (uD ps.objs n)⟩
inductive Wk:PS->PS->Prop
 |refl (ps):Wk ps ps
 |le {ps ps'} (ht:leT ps.tmps ps'.tmps) (ho:leO ps.objs ps'.objs) (hn:ndO ps'.objs=true):Wk ps ps'
 |frz {ps} (n:Nat) {o} (ho:yO ps.objs n=some o) (hc:Y5 o=true) (hT:foT n o ps.tmps) (hO:foO n o ps.objs):Wk ps (JC n o ps)
 |lend {ps} (n t:Nat) {o s els} (ho:yO ps.objs n=some o) (hr:VH o=some (s,els)) (hf:fo n o (zF ps.tmps t)):Wk ps ⟨uG ps.tmps t (frz n o (zF ps.tmps t)),setO ps.objs n (.log s els)⟩
 |pub {ps} (n:Nat) {o s els} (ho:yO ps.objs n=some o) (hr:VH o=some (s,els)):Wk ps ⟨ps.tmps,setO ps.objs n (.lent s els)⟩
 |fresh {ps} (n s:Nat) (hf:yV n ps=true):Wk ps ⟨ps.tmps,ps.objs++[(n,.arr s (λ_=>[]))]⟩
 |drop {ps} (n:Nat):Wk ps ⟨uI (scr n) ps.tmps,xO (scr n) (uD ps.objs n)⟩
 |adoptT {ps} (n s t:Nat) (hf:yV n ps=true) (ht:jK (zF ps.tmps t)=true):Wk ps ⟨uG ps.tmps t (.osl n s (λ_=>0) (λ_=>0)),ps.objs++[(n,.arr s (λ_=>[]))]⟩
 |adoptB {ps} (n s m j:Nat) {cs} (hf:yV n ps=true) (ho:yO ps.objs m=some (.box cs)) (hj:jK (cs.getD j .any)=true) :
   Wk ps ⟨ps.tmps,setO ps.objs m (.box (cs.set j (.osl n s (λ_=>0) (λ_=>0))))++[(n,.arr s (λ_=>[]))]⟩
 |trans {a b c} (h:Wk a b) (k:Wk b c):Wk a c
def rZ (h:Nat->Nat) (eaten:List (Nat×Obj')) (ps:PS):PS :=
 ⟨uI (cX ((z9 h eaten).map Prod.fst)) ps.tmps,xO (cX ((z9 h eaten).map Prod.fst)) (gC ((z9 h eaten).map Prod.fst) ps.objs)⟩
def aI (h:Nat->Nat) (ps:PS):List (Nat×Obj')->Bool
 |[]=>true| (n,_)::r=>yV (h n) ps&&aI h ps r
def aA (h:Nat->Nat) (eaten kept' made:List (Nat×Obj')) (ps:PS):PS :=
 ⟨(rZ h eaten ps).tmps,rE h (rZ h eaten ps).objs kept'++z9 h made⟩
structure CallOk (g : Operand) (as_ : List Operand) (dst : Option Nat) (ps : PS) (K : PS → Prop) : Prop where
  h : ∃ ps', Wk ps ps' ∧ ∃ f caps, ev (zF ps'.tmps) g = .fn f caps ∧
    ((∃ args' r, LeL (evs (ev (zF ps'.tmps)) as_ ++ caps) args' ∧ zD f args' r ∧ nmIn [] r = true ∧ K (put ps' dst r)) ∨
     (∃ (hn : Nat → Nat) (cargs : List PV) (kept eaten : List (Nat × Obj')) (r : PV) (kept' made : List (Nat × Obj')),
        LeL (evs (ev (zF ps'.tmps)) as_ ++ caps) (oW hn cargs) ∧ Sound f cargs kept eaten r kept' made ∧
        uU hn ps'.objs (kept ++ eaten) ∧ ndO (z9 hn (kept ++ eaten)) = true ∧ ndO (kept ++ eaten) = true ∧
        bM (sO (kept' ++ made)) (kept' ++ made) = true ∧ ndO (z9 hn made) = true ∧ aI hn (rZ hn eaten ps') made = true ∧
        yS lv cargs = true ∧ lv r = true ∧ nmIn (sO (kept' ++ made)) r = true ∧
        K (put (aA hn eaten kept' made ps') dst (ren hn r))))
def g8 (lg:Bool) (s:Nat) (els:Unit->List (List D)):Obj' :=
 match lg with
 |true=>.log s els| false=>.arr s els
structure AppOk (t : TypeId) (base x : Operand) (dst : Option Nat) (ps : PS) (K : PS → Prop) : Prop where
  h : ∃ ps' d nm n b z xs, Wk ps ps' ∧ dst = some d ∧ ty t = .sli n b z ∧
    ((ev (zF ps'.tmps) x = .sl xs ∨ (ev (zF ps'.tmps) x = .nil ∧ xs () = [])) ∨ ∃ lg' m' o' len', ev (zF ps'.tmps) x = .osl m' n o' len' ∧ yO ps'.objs m' = some (g8 lg' n xs) ∧ o' () = 0 ∧ len' () = (xs ()).length) ∧ Wid n xs ∧
    ((jK (ev (zF ps'.tmps) base) = true ∧ Room (fun _ => ((xs ()).length : Nat)) b ∧ yV nm ps' = true ∧ K ⟨uG ps'.tmps d (.osl nm n (fun _ => 0) (fun _ => (xs ()).length)), ps'.objs ++ [(nm, .arr n xs)]⟩) ∨
     (∃ lg m o len els, ev (zF ps'.tmps) base = .osl m n o len ∧ yO ps'.objs m = some (g8 lg n els) ∧ o () = 0 ∧ len () = (els ()).length ∧ Room (fun _ => (((els ()).length + (xs ()).length : Nat) : Int)) b ∧
       yV nm ⟨uI (scr m) ps'.tmps, xO (scr m) (uD ps'.objs m)⟩ = true ∧
       K ⟨uG (uI (scr m) ps'.tmps) d (.osl nm n (fun _ => 0) (fun _ => (els ()).length + (xs ()).length)), xO (scr m) (uD ps'.objs m) ++ [(nm, g8 lg n (fun _ => els () ++ xs ()))]⟩))
structure AppM (t:TypeId) (base x:Operand) (dst:Option Nat) (ps:PS) (K:PS->Prop):Prop where
 h:False
structure AppK (t:TypeId) (base x:Operand) (dst:Option Nat) (ps:PS) (K:PS->Prop):Prop where
 h:AppOk t base x dst ps K\/AppM t base x dst ps K
def QB:List (Nat×Operand)->Bool
 |[]=>true| _=>false
def Bz:Option (List (List PV))->Option (Nat×Nat×(Unit->Nat)×(Unit->Nat))
 |some [[.osl k s o len]]=>some (k,s,o,len)| _=>none
def LR:List PV->Bool
 |[.nil,.ff,.nil,.nil]=>true| [.int _ _,.int _ _,.int _ _,.int _ _,.ff,.nil,.nil]=>true| _=>false
structure BldK (n:Nat) (els:List (List PV)) (d:Nat) (ps:PS) (K:PS->Prop):Prop where
 h:K (put ps (some d) (S7 els))\/(yV d ps=true/\K ⟨uG ps.tmps d (.osl d n (λ_=>0) (λ_=>(zL els).length)),ps.objs++[(d,.arr n (λ_=>zL els))]⟩)
structure MapOk (t:TypeId):Prop where
 h:∃ k e,Si t k e
structure MapRoom (ks:Unit->List Int):Prop where
 h:(ks ()).length<1099511627776
structure KeyOk (k:Unit->Int):Prop where
 h:(Lit.int .i64 (k ())).wf=true
def LT:List PV->Bool
 |[]=>true| .aptr _ _ _ _::r=>LT r| _=>false
def J8:List (List PV)->Option (List PV)
 |[]=>some []| [v]::r=>(match J8 r with|some l=>some (v::l)|none=>none)| _=>none
def apK (z:List PV) (x:Option (List (List PV))):Option (List PV) :=
 match z with
 |[.nilp]=>(match x with
  |some els=>(match J8 els with
   |some cs=>(match LT cs with|true=>some cs|false=>none)| none=>none)
  |none=>none)
 |_=>none
def Wa (d:Nat) (cs:List PV) (ps:PS) (K:PS->Prop):Prop :=
 (match yV d ps with|true=>K ⟨uG ps.tmps d (.ptr d 0),ps.objs++[(d,.box cs)]⟩|false=>False)
def LM (objs:List (Nat×Obj')):PV->Bool
 |.aptr n _ _ _=>(match yO objs n with
  |some (.mat _ _ _)=>true| _=>false)
 |_=>false
structure LoadM (t:TypeId) (a:Operand) (dst:Option Nat) (ps:PS) (K:PS->Prop):Prop where
 h:∃ ps',Wk ps ps'/\sop ps'.objs (.load t a) (ev (zF ps'.tmps)) (λv=>K (put ps' dst v))
def nD (o : Oper) (ps : PS) (K : PS → Prop) : Prop :=
  match o.op with
  | .load t a => (match LM ps.objs (ev (zF ps.tmps) a) with
    | true => LoadM t a o.dst ps K
    | false => sop ps.objs o.op (ev (zF ps.tmps)) (fun v => K (put ps o.dst v)))
  | .alloc t => match o.dst with
    | some d => (match (ty t).isNo with | true => False | false => Wa d (ty t).zero ps K)
    | none => False
  | .box t x => match o.dst with
    | some d => (match gQ (ev (zF ps.tmps) x) with | true => Wa d (yR (ev (zF ps.tmps) x)) ps K | false => False)
    | none => False
  | .store t a v => match ev (zF ps.tmps) a with
    | .ptr n off => match yO ps.objs n with
      | some (.box cs) => (match nqb (yR (ev (zF ps.tmps) v)).length (ty t).cells && nle (off + (ty t).cells) cs.length && nlt 0 (ty t).cells && yS mO (yR (ev (zF ps.tmps) v)) with | true => K (put ⟨ps.tmps, setO ps.objs n (.box (uX cs off (yR (ev (zF ps.tmps) v))))⟩ o.dst .any) | false => False)
      | _ => False
    | .aptr n s i off => match yO ps.objs n with
      | some (.arr s' els) => (match nqb s s' && nqb (yR (ev (zF ps.tmps) v)).length (ty t).cells && nle (off + (ty t).cells) s && nlt 0 (ty t).cells && yS Zu (yR (ev (zF ps.tmps) v)) with | true => ElOk s els i (fun c => K (put ⟨ps.tmps, setO ps.objs n (.arr s (fun _ => (els ()).set (i ()) (xE (uX c off (yR (ev (zF ps.tmps) v))))))⟩ o.dst .any)) | false => False)
      | some (.mat _ _ _) => False
      | _ => False
    | _ => False
  | .buildSlice t len parts => match o.dst, ty t with
    | some d, .sli n _ z => (match Bz (rM n (v7 (ev (zF ps.tmps)) parts.toList) (pP z len)) with
      | some _ => False
      | none => (match nqb len 0 && QB parts.toList with
        | true => (match yV d ps with | true => K ⟨uG ps.tmps d (.osl d n (fun _ => 0) (fun _ => 0)), ps.objs ++ [(d, .arr n (fun _ => []))]⟩ | false => False)
        | false => (match apK z (rM n (v7 (ev (zF ps.tmps)) parts.toList) (pP z len)) with
         | some cs => (match nqb cs.length len && nqb n 1 && nle len 1000 && yV d ps && wC d cs with | true => K ⟨uG ps.tmps d (.osl d 1 (fun _ => 0) (fun _ => len)), ps.objs ++ [(d, .box cs)]⟩ | false => False)
         | none => (match LR z with
          | true => (match rM n (v7 (ev (zF ps.tmps)) parts.toList) (pP z len) with
            | some els => (match nle (len * n) 1000 && nS els with | true => BldK n els d ps K | false => False)
            | none => False)
          | false => sop ps.objs o.op (ev (zF ps.tmps)) (fun v => K (put ps o.dst v))))))
    | _, _ => sop ps.objs o.op (ev (zF ps.tmps)) (fun v => K (put ps o.dst v))
  | .makeSlice t l c => match ty t, o.dst, ev (zF ps.tmps) l, ev (zF ps.tmps) c with
    | .sli n b z, some d, .int .i64 x, .int .i64 y => Room y b ∧ MkOk x y ∧ ((match yV d ps && yS Zu z with | true => K ⟨uG ps.tmps d (.osl d n (fun _ => 0) (fun _ => (x ()).toNat)), ps.objs ++ [(d, .arr n (fun _ => List.replicate (x ()).toNat (xE z)))]⟩ | false => False))
    | _, _, _, _ => False
  | .call c => match c.callee with
    | .value g => CallOk g c.args.toList o.dst ps K
    | .builtin .append => match c.args.toList, c.argTypes.toList with
      | [b, x], [t, tx] => (match Zk (ty tx) with | true => AppK t b x o.dst ps K | false => False)
      | _, _ => False
    | .builtin _ => sop ps.objs o.op (ev (zF ps.tmps)) (fun v => K (put ps o.dst v))
    | _ => False
  | .makeMap t none => match o.dst with
    | some d => (match yV d ps with | true => MapOk t ∧ K ⟨uG ps.tmps d (.mpv d), ps.objs ++ [(d, .mp t (fun _ => []))]⟩ | false => False)
    | none => False
  | .lookup t m x false => match ev (zF ps.tmps) m, ev (zF ps.tmps) x with
    | .mpv n, .int .i64 k => match yO ps.objs n with
      | some (.mp t' ks) => (match nqb t t' with | true => KeyOk k ∧ K (put ps o.dst (.bool (fun _ => decide (k () ∈ ks ())))) | false => False)
      | _ => False
    | _, _ => False
  | .mapUpdate t m x v => match ev (zF ps.tmps) m, ev (zF ps.tmps) x, ev (zF ps.tmps) v with
    | .mpv n, .int .i64 k, .tt => match yO ps.objs n with
      | some (.mp t' ks) => (match nqb t t' with | true => KeyOk k ∧ MapRoom ks ∧ K (put ⟨ps.tmps, setO ps.objs n (.mp t (fun _ => k () :: ks ()))⟩ o.dst .any) | false => False)
      | _ => False
    | _, _, _ => False
  | .binOp .eql t x (.const (.slice none 0 0)) _ => match ty t, ev (zF ps.tmps) x with
    | .sli _ _ _, .sl els => NilCmp els (fun v => K (put ps o.dst v))
    | .sli _ _ _, .osl _ _ _ len => NilLen len (fun v => K (put ps o.dst v))
    | .sli _ _ _, .nil => K (put ps o.dst (.bool (fun _ => true)))
    | _, _ => False
  | .binOp .neq t x (.const (.slice none 0 0)) _ => match ty t, ev (zF ps.tmps) x with
    | .sli _ _ _, .sl els => NilCmp els (fun v => K (put ps o.dst (R5 v)))
    | .sli _ _ _, .osl _ _ _ len => NilLen len (fun v => K (put ps o.dst (R5 v)))
    | .sli _ _ _, .nil => K (put ps o.dst (.nbool (fun _ => true)))
    | _, _ => False
  | op => sop ps.objs op (ev (zF ps.tmps)) (fun v => K (put ps o.dst v))
def jZ (all:List Oper):List Oper->PS->(PS->Prop)->Prop
 |[],ps,K=>K ps| o::r,ps,K=>j5 all o (zF ps.tmps) (λ_=>nD o ps (λps'=>XZ all o ps' (λps''=>jZ all r ps'' K))) (λ_=>jZ all r (put ps o.dst (.tup [])) K)
def dE:List Oper->Bool
 |[]=>true
 |o::r=>(match o.dst with
  |none=>true| some d=>r.all λx=>!(x.dst == some d))&&dE r
def fD (ops : List Oper) (o : Oper) : List Nat :=
  (o.op.operands.toList.filterMap fun | .tmp t => some t | _ => none) ++
  (match o.guard with
   | some (g, _) => ((ops[g]?).bind (·.dst)).toList
   | none => [])
def eU (acc:List Nat) (o:Oper):Nat:=o.after.toList.foldl (λs e=>if Region.binds .any e then s ||| (2^e.on ||| acc.getD e.on 0) else s) 0
def A8:List Oper->List Nat->List Nat
 |[],acc=>acc| o::r,acc=>A8 r (acc++[eU acc o])
def anc (ops:List Oper):List Nat:=A8 ops []
def pC (ops:List Oper) (k:Nat):Bool :=
 let an:=anc ops
 dE (ops.take k) &&
 (List.range k).all (λi=>match ops[i]? with
  |some o=>(fD ops o).all λt=>(List.range k).all λj=>match ops[j]? with
   |some oj=>!(oj.dst == some t) || ((decide (j<i)&&(an.getD i 0).testBit j) || (decide (i<j)&&(an.getD j 0).testBit i))| none=>true
  |none=>false) &&
 (List.range ops.length).all (λi=>match ops[i]? with
  |some o=>o.after.toList.all λe=>!(Region.binds .any e) || decide (e.on<i)| none=>false) &&
 (List.range ops.length).all (λi=>decide (i<k) || (List.range i).all λj=>(an.getD i 0).testBit j)
def uA (o:Oper):Option (Nat×Obj') :=
 match o.guard with
 |some _=>none
 |none=>match o.op with
  |.alloc t=>(match (ty t).isNo with
   |true=>none
   |false=>match o.dst with
    |some d=>some (d,.box (ty t).zero)| none=>none)
  |_=>none
def yL:List Oper->List (Nat×Obj')
 |[]=>[]
 |o::r=>match uA o with
  |some x=>x::yL r| none=>yL r
def mfT (n:Nat):List (Nat×PV)->Bool
 |[]=>true
 |(t,v)::r=>(match t == n with
  |true=>true| false=>wO n v)&&mfT n r
def QI (ps:PS):List (Nat×Obj')->Bool
 |[]=>true| (n,_)::r=>yV n ps&&QI ps r
def Jd (T:List (Nat×PV)):List (Nat×Obj')->Bool
 |[]=>true| (n,_)::r=>mfT n T&&Jd T r
def We (ms:List (Nat×Obj')) (T:List (Nat×PV)) (P:Prop):Prop :=
 match ms with
 |[]=>P| _::_=>Jd T ms=true/\P
structure Eff1 (g:Operand) (as_:List Operand) (T:List (Nat×PV)) (o:Option Obj') (n:Nat) (K:PV->Obj'->Prop):Prop where
 h:∃ (f:FuncId) (caps:List PV) (hn:Nat->Nat) (cargs:List PV) (m:Nat) (x:Obj') (r:PV) (x':Obj'),ev (zF T) g=.fn f caps /\
  LeL (evs (ev (zF T)) as_++caps) (oW hn cargs)/\Sound f cargs [(m,x)] [] r [(m,x')] []/\hn m=n/\o=some x/\tW x=true/\tW x'=true /\
  yS lv cargs=true/\lv r=true/\nmIn [m] r=true/\K (ren hn r) x'
def QG (ms:List (Nat×Obj')) (cs:List PV):Bool :=
 match ms with
 |[]=>true| (d,_)::r=>wC d cs&&QG r cs
def Nq (ms:List (Nat×Obj')) (o:Oper) (n:Nat) (T:List (Nat×PV)) (O:List (Nat×Obj')) (K:PV->Obj'->Prop):Prop :=
 match o.guard with
 |some _=>False
 |none=>match o.op with
  |.store t a v=>(match o.dst with
   |some _=>False
   |none=>match ev (zF T) a with
    |.ptr m off=>(match nqb m n with
     |true=>(match yO O n with
      |some (.box cs)=>(match nqb (yR (ev (zF T) v)).length (ty t).cells&&nle (off+(ty t).cells) cs.length&&nlt 0 (ty t).cells&&yS mO (yR (ev (zF T) v))&&QG ms (uX cs off (yR (ev (zF T) v))) with
       |true=>K .any (.box (uX cs off (yR (ev (zF T) v))))| false=>False)
      |_=>False)
     |false=>False)
    |_=>False)
  |.call c=>(match c.callee with
   |.value g=>Eff1 g c.args.toList T (yO O n) n K| _=>False)
  |_=>False
def yT:List (Nat×Nat)->Nat->Option Nat
 |[],_=>none| (i,n)::r,j=>(match nqb i j with|true=>some n|false=>yT r j)
def Yb (all:List Oper) (es:List (Nat×Nat)) (ms lim:List (Nat×Obj')):List Oper->Nat->List (Nat×PV)->List (Nat×Obj')->(List (Nat×PV)->List (Nat×Obj')->Prop)->Prop
 |[],_,T,O,K=>K T O
 |o::r,i,T,O,K=>match uA o with
  |some (d,x)=>Yb all es ms lim r (i+1) (uG T d (.ptr d 0)) (O++[(d,x)]) K
  |none=>match yT es i with
   |some n=>Nq ms o n T O (λv x=>Yb all es ms lim r (i+1) (put ⟨T,[]⟩ o.dst v).tmps (setO O n x) K)| none=>j5 all o (zF T) (λ_=>bL true lim o.op (ev (zF T)) (λv=>XZ all o (put ⟨T,[]⟩ o.dst v) (λp=>Yb all es ms lim r (i+1) p.tmps O K))) (λ_=>Yb all es ms lim r (i+1) (put ⟨T,[]⟩ o.dst (.tup [])).tmps O K)
def kL:List (Nat×Nat)->List Nat
 |[]=>[]| (_,n)::r=>n::kL r
def Ja:List Nat->Bool
 |[]=>true| n::r=>!(yG n r)&&Ja r
def Nr (ops:List Oper) (k:Nat) (es:List (Nat×Nat)):Bool :=
 Ja (kL es)&&es.all (λe=>nlt e.1 k&&(match ops[e.1]? with
  |some o=>(match uA o with
   |some _=>false| none=>true)
  |none=>false)&&(List.range k).all λj=>match ops[j]? with
  |some oj=>(match uA oj with
   |some (d,_)=>!(nqb d e.2) || ((anc ops).getD e.1 0).testBit j| none=>true)
  |none=>true)
def scA (P:List Nat):PV->PV
 |.agg _=>.any| .tup _=>.any| .fn _ _=>.any| .ptr m off=>(match yG m P with|true=>.any|false=>.ptr m off)| .aptr m s i off=>(match yG m P with|true=>.any|false=>.aptr m s i off)| .osl m s i len=>(match yG m P with|true=>.any|false=>.osl m s i len)| .mpv m=>(match yG m P with|true=>.any|false=>.mpv m)| v=>v
def scB (P:List Nat):PV->PV
 |.agg cs=>.agg (vG (scA P) cs)| .tup cs=>.tup (vG (scA P) cs)| .fn f cs=>.fn f (vG (scA P) cs)| v=>scA P v
def scC (P:List Nat):PV->PV
 |.agg cs=>.agg (vG (scB P) cs)| .tup cs=>.tup (vG (scB P) cs)| .fn f cs=>.fn f (vG (scB P) cs)| v=>scA P v
structure EffA (t : TypeId) (x : Operand) (v : PV) (T : List (Nat × PV)) (o : Option Obj') (n : Nat) (K : PV → Obj' → Prop) : Prop where
  h : ∃ (s b : Nat) (z : List PV) (xs : Unit → List (List D)) (lg : Bool) (els : Unit → List (List D)), ty t = .sli s b z ∧ (ev (zF T) x = .sl xs ∨ (ev (zF T) x = .nil ∧ xs () = [])) ∧ Wid s xs ∧
    o = some (g8 lg s els) ∧ ((∃ o' len : Unit → Nat, v = .osl n s o' len ∧ o' () = 0 ∧ len () = (els ()).length ∧ Room (fun _ => (((els ()).length + (xs ()).length : Nat) : Int)) b ∧
      K (.osl n s (fun _ => 0) (fun _ => (els ()).length + (xs ()).length)) (g8 lg s (fun _ => els () ++ xs ()))) ∨
     (jK v = true ∧ Room (fun _ => ((xs ()).length : Nat)) b ∧ K (.osl n s (fun _ => 0) (fun _ => (xs ()).length)) (.arr s xs)))
def Nf (n:Nat):PV->Bool
 |.osl m _ _ _=>nqb m n| .agg _=>false| .tup _=>false| .fn _ _=>false| .ptr _ _=>false| .aptr _ _ _ _=>false| .mpv _=>false| _=>true
def LJ:Operand->Bool
 |.tmp _=>false| _=>true
structure EffC (g:Operand) (as_:List Operand) (T:List (Nat×PV)) (o:Option Obj') (n:Nat) (K:PV->Obj'->Prop):Prop where
 h:∃ (f:FuncId) (caps:List PV) (hn:Nat->Nat) (cargs:List PV) (m k s:Nat) (els els':Unit->List (List D)) (o' l':Unit->Nat),ev (zF T) g=.fn f caps/\LJ g=true /\
  LeL (evs (ev (zF T)) as_++caps) (oW hn cargs)/\Sound f cargs [] [(m,.arr s els)] (.osl k s o' l') [] [(k,.arr s els')]/\hn m=n/\hn k=n/\o=some (.arr s els)/\yS lv cargs=true /\
  yS (Nf n) (evs (ev (zF T)) as_)=true/\K (.osl n s o' l') (.arr s els')
def Np (o:Oper) (n:Nat) (T:List (Nat×PV)) (O:List (Nat×Obj')) (K:PV->Obj'->Prop):Prop :=
 match o.guard with
 |some _=>False
 |none=>match o.op with
  |.call c=>(match c.callee with
   |.builtin .append=>(match c.args.toList,c.argTypes.toList,o.dst with
    |[b,x],[t,tx],some d=>(match Zk (ty tx)&&nqb d n with
     |true=>EffA t x (ev (zF T) b) T (yO O n) n K| false=>False)
    |_,_,_=>False)
   |.value g=>(match o.dst with
    |some d=>(match nqb d n with
     |true=>EffC g c.args.toList T (yO O n) n K| false=>False)
    |none=>False)
   |_=>False)
  |_=>False
def fG (an:List Nat) (i:Nat):List (Nat×Nat)->List Nat
 |[]=>[]| (e,m)::r=>(match (an.getD e 0).testBit i with|true=>fG an i r|false=>m::fG an i r)
def J7 (all:List Oper) (es:List (Nat×Nat)) (an:List Nat) (lim:List (Nat×Obj')):List Oper->Nat->List (Nat×PV)->List (Nat×Obj')->(List (Nat×PV)->List (Nat×Obj')->Prop)->Prop
 |[],_,T,O,K=>K T O
 |o::r,i,T,O,K=>match yT es i with
  |some n=>Np o n T O (λv x=>J7 all es an lim r (i+1) (put ⟨T,[]⟩ o.dst v).tmps (setO O n x) K)| none=>j5 all o (zF (uI (scC (fG an i es)) T)) (λ_=>bL false (xO (scC (fG an i es)) lim) o.op (ev (zF (uI (scC (fG an i es)) T))) (λv=>XZ all o (put ⟨T,[]⟩ o.dst v) (λp=>J7 all es an lim r (i+1) p.tmps O K))) (λ_=>J7 all es an lim r (i+1) (put ⟨T,[]⟩ o.dst (.tup [])).tmps O K)
def sS (P:List Nat):List (Nat×PV)->List (Nat×PV)
 |[]=>[]| (t,v)::r=>(t,(match yG t P with|true=>v|false=>scC P v))::sS P r
def NE (k:Nat) (es:List (Nat×Nat)):Bool :=
 Ja (kL es)&&es.all (λe=>nlt e.1 k&&nlt e.2 1000000&&(match yT es e.1 with|some n=>nqb n e.2|none=>false))
def De (o:Oper) (l:List Bool):Bool:=o.after.toList.all λe=>!(Region.binds .any e) || l.getD e.on false
def Bg (ops:List Oper) (l:List Bool):List Nat:=(List.range ops.length).filter λi=>!(l.getD i true)&&(match ops[i]? with|some o=>De o l|none=>false)
def Gp (o:Oper) (τ:Nat->PV):Bool :=
 match o.op with
 |.move _=>true| .nilCheck x=>(match ev τ x with|.ptr _ _=>true|_=>false)| .fieldAddr t x i=>(match ty t,ev τ x with|.st _ fs _,.ptr _ _=>(match fs[i]? with|some _=>true|none=>false)|.st _ fs _,.aptr _ _ _ _=>(match fs[i]? with|some _=>true|none=>false)|_,_=>false)| _=>false
def X5 (o:Oper):Bool:=match o.guard with|some _=>false|none=>true
def V4 (ops:List Oper) (l:List Bool) (τ:Nat->PV):List Nat->Option Nat
 |[]=>none
 |i::r=>(match ops[i]? with
  |some o=>(match Gp o τ&&X5 o&&Region.free .any ops.toArray l.toArray i with|true=>some i|false=>V4 ops l τ r)| none=>V4 ops l τ r)
def GM (ops:List Oper) (j:Nat) (ps:PS) (K:PS->Prop):Prop :=
 match ops[j]? with
 |some o=>(match X5 o with|true=>nD o ps K|false=>False)| none=>False
def NG (f:Nat->Prop):List Nat->Prop
 |[]=>True| i::r=>f i/\NG f r
def Vf (ops:List Oper):Nat->List Bool->PS->(PS->Prop)->Prop
 |0,l,ps,K=>(match Bg ops l with|[]=>K ps|_::_=>False)
 |f+1,l,ps,K=>(match Bg ops l with
  |[]=>K ps
  |i::r=>(match V4 ops l (zF ps.tmps) (i::r) with
   |some j=>GM ops j ps (λps'=>Vf ops f (l.set j true) ps' K)| none=>NG (λj=>GM ops j ps (λps'=>Vf ops f (l.set j true) ps' K)) (i::r)))
inductive DrawK (ops:List Oper) (ps:PS) (K:PS->Prop):Prop where
 |ef (k:Nat) (es:List (Nat×Nat)) (ps':PS) (hw:Wk ps ps') (hd:pC ops k=true) (he:Nr ops k es=true) (hm:(ndO (yL (ops.take k))&&QI ps' (yL (ops.take k)))=true)
  (hs:Yb ops es (yL (ops.take k)) (gC (kL es) ps'.objs) (ops.take k) 0 ps'.tmps ps'.objs (λT O=>We (yL (ops.take k)) T (jZ ops (ops.drop k) ⟨T,O⟩ K))):DrawK ops ps K
 |ap (k:Nat) (es:List (Nat×Nat)) (ps':PS) (hw:Wk ps ps') (hd:pC ops k=true) (he:NE k es=true)
  (hs:J7 ops es (anc ops) (gC (kL es) ps'.objs) (ops.take k) 0 ps'.tmps ps'.objs (λT O=>jZ ops (ops.drop k) ⟨sS (kL es) T,xO (scC (kL es)) O⟩ K)):DrawK ops ps K
 |br (σ:Type) (inv:σ->PS) (good:σ->Prop) (ps':PS) (hw:Wk ps ps') (hsel:Region.noSelect ops.toArray=true) (hs:Vf ops ops.length (List.replicate ops.length false) ps' (λq=>∃ s,good s/\Wk q (inv s))) (hks:∀ s,good s->K (inv s)):DrawK ops ps K
def Wl {σ:Type} (inv:σ->PS) (good:σ->Prop) (Q:Exit->PS->Prop):Exit->PS->Prop
 |.normal,ps'=>∃ s,good s/\Wk ps' (inv s)| e,ps'=>Q e ps'
structure Cut (b:Unit->Bool) (A B:(Exit->PS->Prop)->Prop) (Q:Exit->PS->Prop):Prop where
 h:((b ()=true->A Q)/\(b ()=false->B Q)) \/
  ∃ (σ:Type) (inv:σ->PS) (good:σ->Prop),(b ()=true->A (Wl inv good Q))/\(b ()=false->B (Wl inv good Q))/\∀ s,good s->Q .normal (inv s)
structure LoopOk (B:PS->(Exit->PS->Prop)->Prop) (ps:PS) (Q:Exit->PS->Prop):Prop where
 h:∃ (σ:Type) (inv:σ->PS) (good:σ->Prop) (mu:σ->Nat) (s0:σ),good s0/\Wk ps (inv s0) /\
  ∀ s,good s->B (inv s) (λe ps'=>match e with
   |.normal=>∃ s',good s'/\mu s'<mu s/\Wk ps' (inv s')| e=>Q e ps')
def Af:List Oper->List Nat->Bool
 |[],_=>false
 |o::r,ds=>(match o.guard with
  |none=>Af r (ds++[0])| some (j,_)=>(match nle 2 (ds.getD j 0) with|true=>true|false=>Af r (ds++[ds.getD j 0+1])))
structure RegK (ops:List Oper) (ps:PS) (K:PS->Prop):Prop where
 h:jZ ops ops ps K\/∃ (σ:Type) (inv:σ->PS) (good:σ->Prop),jZ ops ops ps (λps'=>∃ s,good s/\Wk ps' (inv s))/\∀ s,good s->K (inv s)
def wp:Code->PS->(Exit->PS->Prop)->Prop
 |.skip,ps,Q=>Q .normal ps| .region _ ops false,ps,Q=>(match Af ops.toList [] with|true=>RegK ops.toList ps (Q .normal)|false=>jZ ops.toList ops.toList ps (Q .normal))| .region _ ops true,ps,Q=>DrawK ops.toList ps (Q .normal)
 |.seq a b,ps,Q=>wp a ps λe ps'=>match e with
   |.normal=>wp b ps' Q| e=>Q e ps'
 |.cond c a b,ps,Q=>match ev (zF ps.tmps) c with
   |.tt=>wp a ps Q| .ff=>wp b ps Q| .bool x=>Cut x (λQ=>wp a ps Q) (λQ=>wp b ps Q) Q| .nbool x=>Cut x (λQ=>wp b ps Q) (λQ=>wp a ps Q) Q| _=>False
 |.block id b,ps,Q=>wp b ps λe ps'=>match e with
   |.exit i=>(match nqb i id with|true=>Q .normal ps'|false=>Q (.exit i) ps')| e=>Q e ps'
 |.exit id,ps,Q=>Q (.exit id) ps| .ret,ps,Q=>Q .ret ps| .loop b,ps,Q=>LoopOk (λps Q=>wp b ps Q) ps Q| .label _,ps,Q=>Q .normal ps
 |.scope b,ps,Q=>wp b ps λe ps'=>match e with
   |.goto _=>False| e=>Q e ps'
 |_,_,_=>False
def rdV (t:Ty) (cs:List PV) (off:Nat):Option PV :=
 (match t.isNo with|true=>none|false=>(match nle (off+t.cells) cs.length with|true=>some ((match t.isA with|true=>.agg ((cs.drop off).take t.cells)|false=>cs.getD off .any))|false=>none))
def dL (ps:PS):List ResultVar->Option (List PV)
 |[]=>some []
 |.tmp t::r=>match dL ps r with
  |some l=>some (zF ps.tmps t::l)| none=>none
 |.cell a t::r=>match zF ps.tmps a with
  |.ptr n off=>match yO ps.objs n with
   |some (.box cs)=>match rdV (ty t) cs off,dL ps r with
    |some v,some l=>some (v::l)| _,_=>none
   |_=>none
  |_=>none
def nE:List PV->PV
 |[v]=>v| l=>.tup l
def Ww (h:Nat->Nat):List (Nat×Obj')->Prop
 |[]=>True| (n,_)::r=>(h n=n/\1000000<=n)/\Ww h r
structure RetOk (rs:List ResultVar) (r:PV) (kept' made:List (Nat×Obj')) (ps:PS):Prop where
 h:∃ ps' l hn,Wk ps ps'/\dL ps' rs=some l/\Le (nE l) (ren hn r)/\lv r=true/\uU hn ps'.objs (kept'++made)/\ndO (z9 hn (kept'++made))=true/\Ww hn kept'
def dT (rs:List ResultVar) (r:PV) (kept' made:List (Nat×Obj')):Exit->PS->Prop
 |.normal,ps=>RetOk rs r kept' made ps| .ret,ps=>RetOk rs r kept' made ps| _,_=>False
end Go.Proofs.YtaeaffgjdcigoaaGreat
