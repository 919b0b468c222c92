/- A part of the proof: PmC. -/
import Derived.Test.YtaeaffgjdcigoaaGreatW03
set_option linter.all false
namespace Go.Proofs.YtaeaffgjdcigoaaGreat
open Go
def F5 (n:Nat):List (Nat×Obj')->Bool
 |[]=>false| (m,_)::r=>nqb m n || F5 n r
def ndO:List (Nat×Obj')->Bool
 |[]=>true| (n,_)::r=>!(F5 n r)&&ndO r
def rn0 (h:Nat->Nat):PV->PV
 |.ptr m off=>.ptr (h m) off| .aptr m s i off=>.aptr (h m) s i off| .osl m s i len=>.osl (h m) s i len| .mpv m=>.mpv (h m)| v=>v
def rn1 (h:Nat->Nat):PV->PV
 |.agg cs=>.agg (w5 (rn0 h) cs)| .tup cs=>.tup (w5 (rn0 h) cs)| .fn f cs=>.fn f (w5 (rn0 h) cs)| v=>rn0 h v
def ren (h:Nat->Nat):PV->PV
 |.agg cs=>.agg (w5 (rn1 h) cs)| .tup cs=>.tup (w5 (rn1 h) cs)| .fn f cs=>.fn f (w5 (rn1 h) cs)| v=>rn0 h v
def oP (h:Nat->Nat):List PV->List PV:=w5 (ren h)
def lv0:PV->Bool
 |.agg _=>false| .tup _=>false| .fn _ _=>false| _=>true
def lv1:PV->Bool
 |.agg cs=>yT lv0 cs| .tup cs=>yT lv0 cs| .fn _ cs=>yT lv0 cs| _=>true
def lv:PV->Bool
 |.agg cs=>yT lv1 cs| .tup cs=>yT lv1 cs| .fn _ cs=>yT lv1 cs| _=>true
def wC (f:PV->PV):Obj'->Obj'
 |.box cs=>.box (w5 f cs)| .arr s els=>.arr s els| .log s els=>.log s els| .lent s els=>.lent s els| .mat s rows hs=>.mat s rows (s7 f hs)| .mp t ks=>.mp t ks
def Aq (p:PV->Bool):List (PV×(Unit->Nat))->Bool
 |[]=>true| (v,_)::r=>p v&&Aq p r
def bF:Obj'->Bool
 |.box cs=>yT lv cs| .arr _ _=>true| .log _ _=>false| .lent _ _=>false| .mat _ _ hs=>Aq lv hs| .mp _ _=>true
def Hr (l:List Nat):Obj'->Bool
 |.box cs=>yT (nmIn l) cs| .mat _ _ hs=>Aq (nmIn l) hs| _=>true
def bW (l:List Nat):List (Nat×Obj')->Bool
 |[]=>true| (_,o)::r=>(bF o&&Hr l o)&&bW l r
def bA:List Nat->PV->PV
 |[],v=>v| n::r,v=>bA r (scr n v)
def gI:List Nat->List (Nat×Obj')->List (Nat×Obj')
 |[],l=>l| n::r,l=>gI r (v8 l n)
def qE (h:Nat->Nat) (l:List (Nat×Obj')):List (Nat×Obj')->Prop
 |[]=>True| (n,o)::r=>(yN l (h n)=some (wC (ren h) o)/\bF o=true)/\qE h l r
def rM (h:Nat->Nat) (l:List (Nat×Obj')):List (Nat×Obj')->List (Nat×Obj')
 |[]=>l| (n,o)::r=>rM h (setO l (h n) (wC (ren h) o)) r
def z9 (h:Nat->Nat):List (Nat×Obj')->List (Nat×Obj')
 |[]=>[]| (n,o)::r=>(h n,wC (ren h) o)::z9 h r
def s4:List (Nat×Obj')->List Nat
 |[]=>[]| (n,_)::r=>n::s4 r
structure CallS (nb:Bool) (objs:List (Nat×Obj')) (f:FuncId) (args:List PV) (K:PV->Prop):Prop where
 h:(∃ args' r,LeL args args'/\zC f args' r/\nmIn [] r=true/\K r) \/
  (nb=true/\∃ (hn:Nat->Nat) (cargs:List PV) (kept:List (Nat×Obj')) (r:PV),LeL args (oP hn cargs)/\Sound f cargs kept [] r kept []/\qE hn objs kept/\ndO (z9 hn kept)=true/\ndO kept=true /\
   bW (s4 kept) kept=true/\yT lv cargs=true/\lv r=true/\nmIn (s4 kept) r=true/\K (ren hn r))
structure EqS (op:BinOp) (t:TypeId) (x y:Operand) (a b:List Fld) (K:PV->Prop):Prop where
 h:∃ r:Bool,(∀ w:World,(do eqGuard op t x y (.agg (Zh a).toArray) (.agg (Zh b).toArray);binOp op t (.agg (Zh a).toArray) (.agg (Zh b).toArray):Sem Value).run Pg w=.ok (.bool r) w)/\K (.bool (λ_=>r))
def SV:PV->PV
 |.bool b=>.nbool b| v=>v
structure NilCmp (els:Unit->List (List D)) (K:PV->Prop):Prop where
 h:∀ b:Bool,(b=true->els ()=[])->K (.bool (λ_=>b))
structure NilLen (len:Unit->Nat) (K:PV->Prop):Prop where
 h:∀ b:Bool,(b=true->len ()=0)->K (.bool (λ_=>b))
structure StrRoom (a b:Unit->ByteArray):Prop where
 h:(a ()).size+(b ()).size<=9223372036854775807
def Fv (op:BinOp) (a b:Unit->ByteArray) (K:PV->Prop):Prop :=
 match op with
 |.add=>StrRoom a b/\K (.str (λ_=>a ()++b ()))| .eql=>K (.bool (λ_=>(a ()).toList == (b ()).toList))| .neq=>K (.nbool (λ_=>(a ()).toList == (b ()).toList))| _=>False
def Y5 (ns:List Int):ByteArray:=ns.foldl (λr n=>r.push (UInt8.ofNat n.toNat)) ByteArray.empty
structure ToStr (src dst:TypeId) (els:Unit->List (List D)) (K:PV->Prop):Prop where
 h:(∃ e,Pg.underlying src=some (.slice e)/\Pg.underlying e=some (.int .u8))/\Pg.underlying dst=some .string/\∃ ns:List Int,els ()=ns.map (λn=>[D.int .u8 n])/\K (.str (λ_=>Y5 ns))
def HC:PV->Option Bool
 |.nilp=>some true| .ptr _ _=>some false| _=>none
def Dk (op:BinOp) (t:TypeId) (ox oy:Operand) (x y:PV) (K:PV->Prop):Prop :=
 match x,y with
 |.int k a,.int k' b=>F0 op k a k' b K| .str a,.str b=>Fv op a b K
 |.agg l,.agg m=>match Z1 l,Z1 m with
  |some a,some b=>EqS op t ox oy a b K| _,_=>False
 |x,y=>match ty t with
  |.sc .ff=>match op,Ad x,Ad y with
   |.eql,some a,some b=>K (.bool (λ_=>decide (a ()=b ())))| .neq,some a,some b=>K (.nbool (λ_=>decide (a ()=b ())))| _,_,_=>False
  |.sc .nilp=>match op,HC x,HC y with
   |.eql,some a,some b=>(match a || b with|true=>K (.bool (λ_=>a&&b))|false=>False)| .neq,some a,some b=>(match a || b with|true=>K (.nbool (λ_=>a&&b))|false=>False)| _,_,_=>False
  |_=>False
structure AtOk (k:Unit->Int) (len:Nat) (K:Nat->Prop):Prop where
 h:∃ j:Nat,k ()=(j:Int)/\j<len/\K j
structure FrOk (i len:Unit->Nat) (els:Unit->List (List D)):Prop where
 h:i ()+len ()<=(els ()).length
def fo0 (n:Nat) (o:Obj'):PV->Prop
 |.osl m s i len=>(match nqb m n with
  |true=>(match Vj o with
   |some (_,els)=>FrOk i len els| none=>True)
  |false=>True)
 |_=>True
def Vu (f:PV->Prop):List PV->Prop
 |[]=>True| v::r=>f v/\Vu f r
def fo1 (n:Nat) (o:Obj'):PV->Prop
 |.agg cs=>Vu (fo0 n o) cs| .tup cs=>Vu (fo0 n o) cs| .fn _ cs=>Vu (fo0 n o) cs| v=>fo0 n o v
def fo (n:Nat) (o:Obj'):PV->Prop
 |.agg cs=>Vu (fo1 n o) cs| .tup cs=>Vu (fo1 n o) cs| .fn _ cs=>Vu (fo1 n o) cs| v=>fo0 n o v
def MH (f:PV->Bool):List PV->Bool
 |[]=>false| v::r=>(match f v with|true=>true|false=>MH f r)
def FN (objs:List (Nat×Obj')):PV->Bool
 |.osl m _ _ _=>(match yN objs m with
  |some (.lent _ _)=>true| _=>false)
 |_=>false
def lnt (objs:List (Nat×Obj')):PV->Bool
 |.agg cs=>MH (FN objs) cs| v=>FN objs v
structure LdK (objs:List (Nat×Obj')) (v:PV) (K:PV->Prop):Prop where
 h:K v\/∃ n s els,yN objs n=some (.lent s els)/\fo n (.lent s els) v/\K (frz n (.lent s els) v)
def ldV (objs:List (Nat×Obj')) (v:PV) (K:PV->Prop):Prop :=
 match lnt objs v with
 |true=>LdK objs v K| false=>K v
structure AtN (i:Unit->Nat) (len:Nat) (K:Nat->Prop):Prop where
 h:i ()<len/\K (i ())
structure HoleK (hs:List (PV×(Unit->Nat))) (i:Unit->Nat) (K:PV->Prop):Prop where
 h:∃ v k,(v,k)∈hs/\k ()=i ()/\K v
def sop (objs:List (Nat×Obj')) (op:Op) (e:Operand->PV) (K:PV->Prop):Prop :=
 match op with
 |.move x=>K (e x)| .assign x=>K (e x)| .pick c a b=>brV (e c) (λ_=>K (e a)) (λ_=>K (e b))
 |.build t parts=>match ty t with
  |.st _ fs z=>match Wv fs (vO e parts.toList) z with
   |some cs=>K (.agg cs)| none=>False
  |.arr _ n _ z=>match Uj n (vO e parts.toList) z with
   |some cs=>K (.agg cs)| none=>False
  |_=>False
 |.buildSlice t len parts=>match ty t with
  |.sli n _ z=>match rW n (vO e parts.toList) (pT z len) with
   |some els=>(match nle (len*n) 1000&&nD els with|true=>K (Sf els)|false=>False)| none=>False
  |_=>False
 |.load t a=>match e a with
  |.dptr cs off=>rdK (ty t) cs off K
  |.ptr n off=>match yN objs n with
   |some (.box cs)=>rdK (ty t) cs off (λv=>ldV objs v K)| _=>False
  |.aptr n s i off=>match yN objs n with
   |some (.arr s' els)=>(match nqb s s' with|true=>ElOk s els i (λc=>rdK (ty t) c off K)|false=>False)| some (.mat _ _ hs)=>(match nqb s 1&&nqb off 0 with|true=>HoleK hs i (λv=>rdK (ty t) [v] 0 K)|false=>False)| some (.box cs)=>(match nqb s 1&&nqb off 0 with|true=>AtN i cs.length (λj=>rdK (ty t) cs j K)|false=>False)| _=>False
  |_=>False
 |.binOp op t x y _=>Dk op t x y (e x) (e y) K
 |.unOp op _ x=>match op,e x with
  |.not,.tt=>K .ff| .not,.ff=>K .tt| .not,.bool b=>K (.nbool b)| .not,.nbool b=>K (.bool b)| .neg,.int k n=>arK k (λ_=>0-n ()) K| _,_=>False
 |.convert src dst x=>(match (ty src).isNo with
  |true=>False
  |false=>(match ty dst,e x with
   |.sc (.int k _),.int _ n=>K (.int k (λ_=>nx k (n ())))| .no,.sl els=>ToStr src dst els K| _,_=>False))
 |.fieldAddr t x i=>match ty t with
  |.st _ fs _=>match fs[i]? with
   |some (off,_,_)=>match e x with
    |.ptr n o=>K (.ptr n (o+off))| .aptr n s j o=>K (.aptr n s j (o+off))| .dptr cs o=>K (.dptr cs (o+off))| _=>False
   |none=>False
  |_=>False
 |.field t x i=>match ty t with
  |.st _ fs _=>match fs[i]? with
   |some (off,sz,ag)=>match ag with
    |true=>match e x with
     |.agg cs=>(match nle (off+sz) cs.length with|true=>K (.agg ((cs.drop off).take sz))|false=>False)| _=>False
    |false=>match e x with
     |.agg cs=>(match nqb sz 1&&nlt off cs.length with|true=>K (cs.getD off .any)|false=>False)| _=>False
   |none=>False
  |_=>False
 |.indexAddr t x i=>match ty t,e x,e i with
  |.sli n _ _,.sl els,.int _ k=>IdxOk n els k (λc=>K (.dptr c 0))| .sli n _ _,.osl m s o len,.int _ k=>(match nqb n s with|true=>Rng k len/\K (.aptr m s (λ_=>o ()+(k ()).toNat) 0)|false=>False)| .arr len n _ _,.ptr m o,.int _ k=>AtOk k len (λj=>K (.ptr m (o+j*n)))| _,_,_=>False
 |.index t x i=>match ty t,e x,e i with
  |.arr len 1 false _,.agg cs,.int _ k=>(match nqb len cs.length with|true=>AtOk k len (λj=>K (cs.getD j .any))|false=>False)| _,_,_=>False
 |.extract x i=>match e x with
  |.tup vs=>(match nlt i vs.length with|true=>K (vs.getD i .any)|false=>False)| _=>False
 |.slice t x lo hi none=>match ty t,e x with
  |.sli n _ _,.sl els=>match iT e (λ_=>0) lo,iT e (λ_=>((els ()).length:Nat)) hi with
   |some l,some h=>SlOk l h (λ_=>(els ()).length)/\Wid n els/\K (.sl (λ_=>((els ()).take (h ()).toNat).drop (l ()).toNat))| _,_=>False
  |.sli n _ _,.osl m s o len=>match iT e (λ_=>0) lo,iT e (λ_=>(len ():Nat)) hi with
   |some l,some h=>(match nqb n s with|true=>SlOk l h len/\SlT l h (K (.osl m s (λ_=>o ()+(l ()).toNat) (λ_=>(h ()).toNat-(l ()).toNat))) (K (.sl (λ_=>[])))|false=>False)| _,_=>False
  |.sli _ _ _,.nil=>match iT e (λ_=>0) lo,iT e (λ_=>0) hi with
   |some l,some h=>SlOk l h (λ_=>0)/\K .nil| _,_=>False
  |_,_=>False
 |.nilCheck x=>match e x with
  |.ptr n o=>K (.ptr n o)| .aptr n s i o=>K (.aptr n s i o)| .dptr c o=>K (.dptr c o)| _=>False
 |.makeFunc (.func f) first caps=>match first.toList with
  |[]=>K (.fn f (evs e caps.toList))| _=>False
 |.call c=>match c.callee with
  |.builtin .len=>match c.args.toList,c.argTypes.toList with
   |[x],[t]=>T6 (ty t) (e x) K| _,_=>False
  |.builtin .max=>match c.args.toList with
   |[x,y]=>match e x,e y with
    |.int .i64 a,.int .i64 b=>K (.int .i64 (λ_=>imax (a ()) (b ())))| _,_=>False
   |_=>False
  |.builtin .min=>match c.args.toList with
   |[x,y]=>match e x,e y with
    |.int .i64 a,.int .i64 b=>K (.int .i64 (λ_=>imin (a ()) (b ())))| _,_=>False
   |_=>False
  |.value f=>match e f with
   |.fn g caps=>CallS false [] g (evs e c.args.toList++caps) K| _=>False
  |_=>False
 |_=>False
def Zc:Ty->Bool
 |.sli _ _ _=>true| _=>false
def jO:PV->Bool
 |.nil=>true| .emp=>true| _=>false
def Jz (n b:Nat) (base x:PV) (K:PV->Prop):Prop :=
 match x with
 |.sl xs=>Wid n xs/\Room (λ_=>((xs ()).length:Nat)) b/\K (.sl xs)| .nil=>K base| _=>False
def Yx (op:Op):Bool :=
 match op with
 |.call c=>(match c.callee with
  |.builtin .append=>true| _=>false)
 |_=>false
def Al (op:Op) (e:Operand->PV) (K:PV->Prop):Prop :=
 match op with
 |.call c=>(match c.args.toList,c.argTypes.toList with
  |[b,x],[t,tx]=>(match Zc (ty tx) with
   |true=>(match ty t,jO (e b) with
    |.sli n bb _,true=>Jz n bb (e b) (e x) K| _,_=>False)
   |false=>False)
  |_,_=>False)
 |_=>False
def Q2 (op:Op):Option Call :=
 match op with
 |.call c=>(match c.callee with
  |.value _=>some c| _=>none)
 |_=>none
def oB (objs:List (Nat×Obj')) (op:Op) (e:Operand->PV) (K:PV->Prop):Prop :=
 match Q2 op with
 |none=>sop objs op e K
 |some c=>(match c.callee with
  |.value f=>(match e f with
   |.fn g caps=>CallS true objs g (evs e c.args.toList++caps) K| _=>False)
  |_=>False)
def bU (nb:Bool) (objs:List (Nat×Obj')) (op:Op) (e:Operand->PV) (K:PV->Prop):Prop :=
 match Yx op with
 |true=>Al op e K| false=>(match nb with|true=>oB objs op e K|false=>sop objs op e K)
def gdV (want:Bool) (v:PV) (A B:Unit->Prop):Prop :=
 match v with
 |.tup []=>B ()| v=>(match want with|true=>brV v A B|false=>brV v B A)
def gH (all:List Oper) (o:Oper) (τ:Nat->PV) (A B:Unit->Prop):Prop :=
 match o.guard with
 |none=>A ()
 |some (j,want)=>match all[j]? with
  |some oj=>match oj.dst with
   |some d=>gdV want (τ d) A B| none=>False
  |none=>False
def isG (all:List Oper) (o:Oper):Bool :=
 match o.dst with
 |none=>false
 |some d=>all.any λo'=>match o'.guard with
  |none=>false
  |some (j,_)=>match all[j]? with
   |some oj=>match oj.dst with
    |some d'=>nqb d d'| none=>false
   |none=>false
def XT (all:List Oper) (o:Oper) (ps:PS) (K:PS->Prop):Prop :=
 (match isG all o with
  |true=>(match o.dst with
  |some d=>match zE ps.tmps d with
   |.bool b=>Br b (λ_=>K ⟨uA ps.tmps d .tt,ps.objs⟩) (λ_=>K ⟨uA ps.tmps d .ff,ps.objs⟩)| .nbool b=>Br b (λ_=>K ⟨uA ps.tmps d .ff,ps.objs⟩) (λ_=>K ⟨uA ps.tmps d .tt,ps.objs⟩)| _=>K ps
  |none=>K ps)
  |false=>K ps)
structure LeS (a b:PV):Prop where
 h:Le a b
structure ElsEq (e e':Unit->List (List D)):Prop where
 h:e ()=e' ()
def jG (f:PV->PV->Prop):List PV->List PV->Prop
 |[],[]=>True| a::r,b::q=>f a b/\jG f r q| _,_=>False
def KO:PV->PV->Prop
 |.agg a,.agg b=>jG LeS a b| .tup a,.tup b=>jG LeS a b| a,b=>LeS a b
def les:PV->PV->Prop
 |.agg a,.agg b=>jG KO a b| .tup a,.tup b=>jG KO a b| .fn f a,.fn g b=>nqb f g=true/\jG KO a b| a,b=>LeS a b
structure RowsEq (e e':Unit->List (List (List D))):Prop where
 h:e ()=e' ()
def hLe:List (PV×(Unit->Nat))->List (PV×(Unit->Nat))->Prop
 |[],[]=>True| (v,k)::r,(v',k')::q=>(LeS v v'/\LeS (.int .i64 (λ_=>(k ():Int))) (.int .i64 (λ_=>(k' ():Int))))/\hLe r q| _,_=>False
structure KsEq (a b:Unit->List Int):Prop where
 h:a ()=b ()
def Vc:Obj'->Obj'->Prop
 |.box a,.box b=>jG les a b| .arr s e,.arr s' e'=>nqb s s'=true/\ElsEq e e'| .log s e,.log s' e'=>nqb s s'=true/\ElsEq e e'| .lent s e,.lent s' e'=>nqb s s'=true/\ElsEq e e'| .lent s e,.log s' e'=>nqb s s'=true/\ElsEq e e'| .mat s r h,.mat s' r' h'=>nqb s s'=true/\RowsEq r r'/\hLe h h'| .mp t k,.mp t' k'=>nqb t t'=true/\KsEq k k'| _,_=>False
def leT (src:List (Nat×PV)):List (Nat×PV)->Prop
 |[]=>True| (t,v)::r=>les (zE src t) v/\leT src r
def leO (src:List (Nat×Obj')):List (Nat×Obj')->Prop
 |[]=>True
 |(n,o)::r=>(match yN src n with
  |some o'=>Vc o' o| none=>False)/\leO src r
def tS:Obj'->Bool
 |.box cs=>yT iM cs| .arr _ _=>true| .log _ _=>false| .lent _ _=>false| .mat _ _ []=>true| .mat _ _ (_::_)=>false| .mp _ _=>false
def Y0:Obj'->Bool
 |.box cs=>yT iM cs| .mat _ _ _=>false| .mp _ _=>false| _=>true
def foT (n:Nat) (o:Obj'):List (Nat×PV)->Prop
 |[]=>True| (_,v)::r=>fo n o v/\foT n o r
def foH (n:Nat) (o:Obj'):List (PV×(Unit->Nat))->Prop
 |[]=>True| (v,_)::r=>fo n o v/\foH n o r
def foO (n:Nat) (o:Obj'):List (Nat×Obj')->Prop
 |[]=>True| (_,.box cs)::r=>Vu (fo n o) cs/\foO n o r| (_,.arr _ _)::r=>foO n o r| (_,.log _ _)::r=>foO n o r| (_,.lent _ _)::r=>foO n o r| (_,.mat _ _ hs)::r=>foH n o hs/\foO n o r| (_,.mp _ _)::r=>foO n o r
def K8 (n:Nat) (o:Obj') (ps:PS):PS:=⟨vZ (frz n o) ps.tmps,xL (frz n o) (v8 ps.objs n)⟩
inductive Wk:PS->PS->Prop
 |refl (ps):Wk ps ps
 |le {ps ps'} (ht:leT ps.tmps ps'.tmps) (ho:leO ps.objs ps'.objs) (hn:ndO ps'.objs=true):Wk ps ps'
 |frz {ps} (n:Nat) {o} (ho:yN ps.objs n=some o) (hc:Y0 o=true) (hT:foT n o ps.tmps) (hO:foO n o ps.objs):Wk ps (K8 n o ps)
 |lend {ps} (n t:Nat) {o s els} (ho:yN ps.objs n=some o) (hr:Vj o=some (s,els)) (hf:fo n o (zE ps.tmps t)):Wk ps ⟨uA ps.tmps t (frz n o (zE ps.tmps t)),setO ps.objs n (.log s els)⟩
 |pub {ps} (n:Nat) {o s els} (ho:yN ps.objs n=some o) (hr:Vj o=some (s,els)):Wk ps ⟨ps.tmps,setO ps.objs n (.lent s els)⟩
 |fresh {ps} (n s:Nat) (hf:yQ n ps=true):Wk ps ⟨ps.tmps,ps.objs++[(n,.arr s (λ_=>[]))]⟩
 |drop {ps} (n:Nat):Wk ps ⟨vZ (scr n) ps.tmps,xL (scr n) (v8 ps.objs n)⟩
 |adoptT {ps} (n s t:Nat) (hf:yQ n ps=true) (ht:jO (zE ps.tmps t)=true):Wk ps ⟨uA ps.tmps t (.osl n s (λ_=>0) (λ_=>0)),ps.objs++[(n,.arr s (λ_=>[]))]⟩
 |adoptB {ps} (n s m j:Nat) {cs} (hf:yQ n ps=true) (ho:yN ps.objs m=some (.box cs)) (hj:jO (cs.getD j .any)=true) :
   Wk ps ⟨ps.tmps,setO ps.objs m (.box (cs.set j (.osl n s (λ_=>0) (λ_=>0))))++[(n,.arr s (λ_=>[]))]⟩
 |trans {a b c} (h:Wk a b) (k:Wk b c):Wk a c
def pF (h:Nat->Nat) (eaten:List (Nat×Obj')) (ps:PS):PS :=
 ⟨vZ (bA ((z9 h eaten).map Prod.fst)) ps.tmps,xL (bA ((z9 h eaten).map Prod.fst)) (gI ((z9 h eaten).map Prod.fst) ps.objs)⟩
def aU (h:Nat->Nat) (ps:PS):List (Nat×Obj')->Bool
 |[]=>true| (n,_)::r=>yQ (h n) ps&&aU h ps r
def aM (h:Nat->Nat) (eaten kept' made:List (Nat×Obj')) (ps:PS):PS :=
 ⟨(pF h eaten ps).tmps,rM h (pF h eaten ps).objs kept'++z9 h made⟩
structure CallOk (g : Operand) (as_ : List Operand) (dst : Option Nat) (ps : PS) (K : PS → Prop) : Prop where
  h : ∃ ps', Wk ps ps' ∧ ∃ f caps, ev (zE ps'.tmps) g = .fn f caps ∧
    ((∃ args' r, LeL (evs (ev (zE ps'.tmps)) as_ ++ caps) args' ∧ zC f args' r ∧ nmIn [] r = true ∧ K (put ps' dst r)) ∨
     (∃ (hn : Nat → Nat) (cargs : List PV) (kept eaten : List (Nat × Obj')) (r : PV) (kept' made : List (Nat × Obj')),
        LeL (evs (ev (zE ps'.tmps)) as_ ++ caps) (oP hn cargs) ∧ Sound f cargs kept eaten r kept' made ∧
        qE hn ps'.objs (kept ++ eaten) ∧ ndO (z9 hn (kept ++ eaten)) = true ∧ ndO (kept ++ eaten) = true ∧
        bW (s4 (kept' ++ made)) (kept' ++ made) = true ∧ ndO (z9 hn made) = true ∧ aU hn (pF hn eaten ps') made = true ∧
        yT lv cargs = true ∧ lv r = true ∧ nmIn (s4 (kept' ++ made)) r = true ∧
        K (put (aM hn eaten kept' made ps') dst (ren hn r))))
def fH (lg:Bool) (s:Nat) (els:Unit->List (List D)):Obj' :=
 match lg with
 |true=>.log s els| false=>.arr s els
structure AppOk (t : TypeId) (base x : Operand) (dst : Option Nat) (ps : PS) (K : PS → Prop) : Prop where
  h : ∃ ps' d nm n b z xs, Wk ps ps' ∧ dst = some d ∧ ty t = .sli n b z ∧
    ((ev (zE ps'.tmps) x = .sl xs ∨ (ev (zE ps'.tmps) x = .nil ∧ xs () = [])) ∨ ∃ (lg' : Bool) (m' : Nat) (o' len' : Unit → Nat) (ys : Unit → List (List D)), ev (zE ps'.tmps) x = .osl m' n o' len' ∧ yN ps'.objs m' = some (fH lg' n ys) ∧ o' () + len' () ≤ (ys ()).length ∧ xs () = ((ys ()).drop (o' ())).take (len' ())) ∧ Wid n xs ∧
    ((jO (ev (zE ps'.tmps) base) = true ∧ Room (fun _ => ((xs ()).length : Nat)) b ∧ yQ nm ps' = true ∧ K ⟨uA ps'.tmps d (.osl nm n (fun _ => 0) (fun _ => (xs ()).length)), ps'.objs ++ [(nm, .arr n xs)]⟩) ∨
     (∃ (lg : Bool) (m : Nat) (o len : Unit → Nat) (els els0 : Unit → List (List D)), ev (zE ps'.tmps) base = .osl m n o len ∧ yN ps'.objs m = some (fH lg n els0) ∧ o () = 0 ∧ len () = (els ()).length ∧ els () = (els0 ()).take (len ()) ∧ (lg = true → els0 () = els ()) ∧ Room (fun _ => (((els ()).length + (xs ()).length : Nat) : Int)) b ∧
       yQ nm ⟨vZ (scr m) ps'.tmps, xL (scr m) (v8 ps'.objs m)⟩ = true ∧
       K ⟨uA (vZ (scr m) ps'.tmps) d (.osl nm n (fun _ => 0) (fun _ => (els ()).length + (xs ()).length)), xL (scr m) (v8 ps'.objs m) ++ [(nm, fH lg n (fun _ => els () ++ xs ()))]⟩))
structure AppM (t:TypeId) (base x:Operand) (dst:Option Nat) (ps:PS) (K:PS->Prop):Prop where
 h:False
structure AppK (t:TypeId) (base x:Operand) (dst:Option Nat) (ps:PS) (K:PS->Prop):Prop where
 h:AppOk t base x dst ps K\/AppM t base x dst ps K
def U9:List (Nat×Operand)->Bool
 |[]=>true| _=>false
def CP:Option (List (List PV))->Option (Nat×Nat×(Unit->Nat)×(Unit->Nat))
 |some [[.osl k s o len]]=>some (k,s,o,len)| _=>none
def N1:List PV->Bool
 |[.nil,.ff,.nil,.nil]=>true| [.int _ _,.int _ _,.int _ _,.int _ _,.ff,.nil,.nil]=>true| _=>false
structure BldK (n:Nat) (els:List (List PV)) (d:Nat) (ps:PS) (K:PS->Prop):Prop where
 h:K (put ps (some d) (Sf els))\/(yQ d ps=true/\K ⟨uA ps.tmps d (.osl d n (λ_=>0) (λ_=>(zW els).length)),ps.objs++[(d,.arr n (λ_=>zW els))]⟩)
structure MapOk (t:TypeId):Prop where
 h:∃ k e,AB t k e
structure MapRoom (ks:Unit->List Int):Prop where
 h:(ks ()).length<1099511627776
structure KeyOk (k:Unit->Int):Prop where
 h:(Lit.int .i64 (k ())).wf=true
def N2:List PV->Bool
 |[]=>true| .aptr _ _ _ _::r=>N2 r| _=>false
def JA:List (List PV)->Option (List PV)
 |[]=>some []| [v]::r=>(match JA r with|some l=>some (v::l)|none=>none)| _=>none
def apK (z:List PV) (x:Option (List (List PV))):Option (List PV) :=
 match z with
 |[.nilp]=>(match x with
  |some els=>(match JA els with
   |some cs=>(match N2 cs with|true=>some cs|false=>none)| none=>none)
  |none=>none)
 |_=>none
def ZO (d:Nat) (cs:List PV) (ps:PS) (K:PS->Prop):Prop :=
 (match yQ d ps with|true=>K ⟨uA ps.tmps d (.ptr d 0),ps.objs++[(d,.box cs)]⟩|false=>False)
def NW (objs:List (Nat×Obj')):PV->Bool
 |.aptr n _ _ _=>(match yN objs n with
  |some (.mat _ _ _)=>true| _=>false)
 |_=>false
structure LoadM (t:TypeId) (a:Operand) (dst:Option Nat) (ps:PS) (K:PS->Prop):Prop where
 h:∃ ps',Wk ps ps'/\sop ps'.objs (.load t a) (ev (zE ps'.tmps)) (λv=>K (put ps' dst v))
def pY (o : Oper) (ps : PS) (K : PS → Prop) : Prop :=
  match o.op with
  | .load t a => (match NW ps.objs (ev (zE ps.tmps) a) with
    | true => LoadM t a o.dst ps K
    | false => sop ps.objs o.op (ev (zE ps.tmps)) (fun v => K (put ps o.dst v)))
  | .alloc t => match o.dst with
    | some d => (match (ty t).isNo with | true => False | false => ZO d (ty t).zero ps K)
    | none => False
  | .box t x => match o.dst with
    | some d => (match gY (ev (zE ps.tmps) x) with | true => ZO d (yS (ev (zE ps.tmps) x)) ps K | false => False)
    | none => False
  | .store t a v => match ev (zE ps.tmps) a with
    | .ptr n off => match yN ps.objs n with
      | some (.box cs) => (match nqb (yS (ev (zE ps.tmps) v)).length (ty t).cells && nle (off + (ty t).cells) cs.length && nlt 0 (ty t).cells && yT t9 (yS (ev (zE ps.tmps) v)) with | true => K (put ⟨ps.tmps, setO ps.objs n (.box (uW cs off (yS (ev (zE ps.tmps) v))))⟩ o.dst .any) | false => False)
      | _ => False
    | .aptr n s i off => match yN ps.objs n with
      | some (.arr s' els) => (match nqb s s' && nqb (yS (ev (zE ps.tmps) v)).length (ty t).cells && nle (off + (ty t).cells) s && nlt 0 (ty t).cells && yT Zm (yS (ev (zE ps.tmps) v)) with | true => ElOk s els i (fun c => K (put ⟨ps.tmps, setO ps.objs n (.arr s (fun _ => (els ()).set (i ()) (xT (uW c off (yS (ev (zE ps.tmps) v))))))⟩ o.dst .any)) | false => False)
      | some (.mat _ _ _) => False
      | _ => False
    | _ => False
  | .buildSlice t len parts => match o.dst, ty t with
    | some d, .sli n _ z => (match CP (rW n (vO (ev (zE ps.tmps)) parts.toList) (pT z len)) with
      | some _ => False
      | none => (match nqb len 0 && U9 parts.toList with
        | true => (match yQ d ps with | true => K ⟨uA ps.tmps d (.osl d n (fun _ => 0) (fun _ => 0)), ps.objs ++ [(d, .arr n (fun _ => []))]⟩ | false => False)
        | false => (match apK z (rW n (vO (ev (zE ps.tmps)) parts.toList) (pT z len)) with
         | some cs => (match nqb cs.length len && nqb n 1 && nle len 1000 && yQ d ps && wN d cs with | true => K ⟨uA ps.tmps d (.osl d 1 (fun _ => 0) (fun _ => len)), ps.objs ++ [(d, .box cs)]⟩ | false => False)
         | none => (match N1 z with
          | true => (match rW n (vO (ev (zE ps.tmps)) parts.toList) (pT z len) with
            | some els => (match nle (len * n) 1000 && nD els with | true => BldK n els d ps K | false => False)
            | none => False)
          | false => sop ps.objs o.op (ev (zE ps.tmps)) (fun v => K (put ps o.dst v))))))
    | _, _ => sop ps.objs o.op (ev (zE ps.tmps)) (fun v => K (put ps o.dst v))
  | .makeSlice t l c => match ty t, o.dst, ev (zE ps.tmps) l, ev (zE ps.tmps) c with
    | .sli n b z, some d, .int .i64 x, .int .i64 y => Room y b ∧ MkOk x y ∧ ((match yQ d ps && yT Zm z with | true => K ⟨uA ps.tmps d (.osl d n (fun _ => 0) (fun _ => (x ()).toNat)), ps.objs ++ [(d, .arr n (fun _ => List.replicate (x ()).toNat (xT z)))]⟩ | false => False))
    | _, _, _, _ => False
  | .call c => match c.callee with
    | .value g => CallOk g c.args.toList o.dst ps K
    | .builtin .append => match c.args.toList, c.argTypes.toList with
      | [b, x], [t, tx] => (match Zc (ty tx) with | true => AppK t b x o.dst ps K | false => False)
      | _, _ => False
    | .builtin _ => sop ps.objs o.op (ev (zE ps.tmps)) (fun v => K (put ps o.dst v))
    | _ => False
  | .makeMap t none => match o.dst with
    | some d => (match yQ d ps with | true => MapOk t ∧ K ⟨uA ps.tmps d (.mpv d), ps.objs ++ [(d, .mp t (fun _ => []))]⟩ | false => False)
    | none => False
  | .lookup t m x false => match ev (zE ps.tmps) m, ev (zE ps.tmps) x with
    | .mpv n, .int .i64 k => match yN ps.objs n with
      | some (.mp t' ks) => (match nqb t t' with | true => KeyOk k ∧ K (put ps o.dst (.bool (fun _ => decide (k () ∈ ks ())))) | false => False)
      | _ => False
    | _, _ => False
  | .mapUpdate t m x v => match ev (zE ps.tmps) m, ev (zE ps.tmps) x, ev (zE ps.tmps) v with
    | .mpv n, .int .i64 k, .tt => match yN ps.objs n with
      | some (.mp t' ks) => (match nqb t t' with | true => KeyOk k ∧ MapRoom ks ∧ K (put ⟨ps.tmps, setO ps.objs n (.mp t (fun _ => k () :: ks ()))⟩ o.dst .any) | false => False)
      | _ => False
    | _, _, _ => False
  | .binOp .eql t x (.const (.slice none 0 0)) _ => match ty t, ev (zE ps.tmps) x with
    | .sli _ _ _, .sl els => NilCmp els (fun v => K (put ps o.dst v))
    | .sli _ _ _, .osl _ _ _ len => NilLen len (fun v => K (put ps o.dst v))
    | .sli _ _ _, .nil => K (put ps o.dst (.bool (fun _ => true)))
    | _, _ => False
  | .binOp .neq t x (.const (.slice none 0 0)) _ => match ty t, ev (zE ps.tmps) x with
    | .sli _ _ _, .sl els => NilCmp els (fun v => K (put ps o.dst (SV v)))
    | .sli _ _ _, .osl _ _ _ len => NilLen len (fun v => K (put ps o.dst (SV v)))
    | .sli _ _ _, .nil => K (put ps o.dst (.nbool (fun _ => true)))
    | _, _ => False
  | op => sop ps.objs op (ev (zE ps.tmps)) (fun v => K (put ps o.dst v))
def jE (all:List Oper):List Oper->PS->(PS->Prop)->Prop
 |[],ps,K=>K ps| o::r,ps,K=>gH all o (zE ps.tmps) (λ_=>pY o ps (λps'=>XT all o ps' (λps''=>jE all r ps'' K))) (λ_=>jE all r (put ps o.dst (.tup [])) K)
def dD:List Oper->Bool
 |[]=>true
 |o::r=>(match o.dst with
  |none=>true| some d=>r.all λx=>!(x.dst == some d))&&dD r
def kT (ops : List Oper) (o : Oper) : List Nat :=
  (o.op.operands.toList.filterMap fun | .tmp t => some t | _ => none) ++
  (match o.guard with
   | some (g, _) => ((ops[g]?).bind (·.dst)).toList
   | none => [])
def eG (acc:List Nat) (o:Oper):Nat:=o.after.toList.foldl (λs e=>if Region.binds .any e then s ||| (2^e.on ||| acc.getD e.on 0) else s) 0
def Ao:List Oper->List Nat->List Nat
 |[],acc=>acc| o::r,acc=>Ao r (acc++[eG acc o])
def anc (ops:List Oper):List Nat:=Ao ops []
def b9 (ops:List Oper) (k:Nat):Bool :=
 let an:=anc ops
 dD (ops.take k) &&
 (List.range k).all (λi=>match ops[i]? with
  |some o=>(kT ops o).all λt=>(List.range k).all λj=>match ops[j]? with
   |some oj=>!(oj.dst == some t) || ((decide (j<i)&&(an.getD i 0).testBit j) || (decide (i<j)&&(an.getD j 0).testBit i))| none=>true
  |none=>false) &&
 (List.range ops.length).all (λi=>match ops[i]? with
  |some o=>o.after.toList.all λe=>!(Region.binds .any e) || decide (e.on<i)| none=>false) &&
 (List.range ops.length).all (λi=>decide (i<k) || (List.range i).all λj=>(an.getD i 0).testBit j)
def uB (o:Oper):Option (Nat×Obj') :=
 match o.guard with
 |some _=>none
 |none=>match o.op with
  |.alloc t=>(match (ty t).isNo with
   |true=>none
   |false=>match o.dst with
    |some d=>some (d,.box (ty t).zero)| none=>none)
  |_=>none
def yI:List Oper->List (Nat×Obj')
 |[]=>[]
 |o::r=>match uB o with
  |some x=>x::yI r| none=>yI r
def mfT (n:Nat):List (Nat×PV)->Bool
 |[]=>true
 |(t,v)::r=>(match t == n with
  |true=>true| false=>xZ n v)&&mfT n r
def Vn (ps:PS):List (Nat×Obj')->Bool
 |[]=>true| (n,_)::r=>yQ n ps&&Vn ps r
def KG (T:List (Nat×PV)):List (Nat×Obj')->Bool
 |[]=>true| (n,_)::r=>mfT n T&&KG T r
def Yu (ms:List (Nat×Obj')) (T:List (Nat×PV)) (P:Prop):Prop :=
 match ms with
 |[]=>P| _::_=>KG T ms=true/\P
structure Eff1 (g:Operand) (as_:List Operand) (T:List (Nat×PV)) (o:Option Obj') (n:Nat) (K:PV->Obj'->Prop):Prop where
 h:∃ (f:FuncId) (caps:List PV) (hn:Nat->Nat) (cargs:List PV) (m:Nat) (x:Obj') (r:PV) (x':Obj'),ev (zE T) g=.fn f caps /\
  LeL (evs (ev (zE T)) as_++caps) (oP hn cargs)/\Sound f cargs [(m,x)] [] r [(m,x')] []/\hn m=n/\o=some x/\tS x=true/\tS x'=true /\
  yT lv cargs=true/\lv r=true/\nmIn [m] r=true/\K (ren hn r) x'
def Qe (ms:List (Nat×Obj')) (cs:List PV):Bool :=
 match ms with
 |[]=>true| (d,_)::r=>wN d cs&&Qe r cs
def Mu (ms:List (Nat×Obj')) (o:Oper) (n:Nat) (T:List (Nat×PV)) (O:List (Nat×Obj')) (K:PV->Obj'->Prop):Prop :=
 match o.guard with
 |some _=>False
 |none=>match o.op with
  |.store t a v=>(match o.dst with
   |some _=>False
   |none=>match ev (zE T) a with
    |.ptr m off=>(match nqb m n with
     |true=>(match yN O n with
      |some (.box cs)=>(match nqb (yS (ev (zE T) v)).length (ty t).cells&&nle (off+(ty t).cells) cs.length&&nlt 0 (ty t).cells&&yT t9 (yS (ev (zE T) v))&&Qe ms (uW cs off (yS (ev (zE T) v))) with
       |true=>K .any (.box (uW cs off (yS (ev (zE T) v))))| false=>False)
      |_=>False)
     |false=>False)
    |_=>False)
  |.call c=>(match c.callee with
   |.value g=>Eff1 g c.args.toList T (yN O n) n K| _=>False)
  |_=>False
def yR:List (Nat×Nat)->Nat->Option Nat
 |[],_=>none| (i,n)::r,j=>(match nqb i j with|true=>some n|false=>yR r j)
def Zl (all:List Oper) (es:List (Nat×Nat)) (ms lim:List (Nat×Obj')):List Oper->Nat->List (Nat×PV)->List (Nat×Obj')->(List (Nat×PV)->List (Nat×Obj')->Prop)->Prop
 |[],_,T,O,K=>K T O
 |o::r,i,T,O,K=>match uB o with
  |some (d,x)=>Zl all es ms lim r (i+1) (uA T d (.ptr d 0)) (O++[(d,x)]) K
  |none=>match yR es i with
   |some n=>Mu ms o n T O (λv x=>Zl all es ms lim r (i+1) (put ⟨T,[]⟩ o.dst v).tmps (setO O n x) K)| none=>gH all o (zE T) (λ_=>bU true lim o.op (ev (zE T)) (λv=>XT all o (put ⟨T,[]⟩ o.dst v) (λp=>Zl all es ms lim r (i+1) p.tmps O K))) (λ_=>Zl all es ms lim r (i+1) (put ⟨T,[]⟩ o.dst (.tup [])).tmps O K)
def qY:List (Nat×Nat)->List Nat
 |[]=>[]| (_,n)::r=>n::qY r
def KC:List Nat->Bool
 |[]=>true| n::r=>!(yH n r)&&KC r
def Mv (ops:List Oper) (k:Nat) (es:List (Nat×Nat)):Bool :=
 KC (qY es)&&es.all (λe=>nlt e.1 k&&(match ops[e.1]? with
  |some o=>(match uB o with
   |some _=>false| none=>true)
  |none=>false)&&(List.range k).all λj=>match ops[j]? with
  |some oj=>(match uB oj with
   |some (d,_)=>!(nqb d e.2) || ((anc ops).getD e.1 0).testBit j| none=>true)
  |none=>true)
def scA (P:List Nat):PV->PV
 |.agg _=>.any| .tup _=>.any| .fn _ _=>.any| .ptr m off=>(match yH m P with|true=>.any|false=>.ptr m off)| .aptr m s i off=>(match yH m P with|true=>.any|false=>.aptr m s i off)| .osl m s i len=>(match yH m P with|true=>.any|false=>.osl m s i len)| .mpv m=>(match yH m P with|true=>.any|false=>.mpv m)| v=>v
def scB (P:List Nat):PV->PV
 |.agg cs=>.agg (w5 (scA P) cs)| .tup cs=>.tup (w5 (scA P) cs)| .fn f cs=>.fn f (w5 (scA P) cs)| v=>scA P v
def scC (P:List Nat):PV->PV
 |.agg cs=>.agg (w5 (scB P) cs)| .tup cs=>.tup (w5 (scB P) cs)| .fn f cs=>.fn f (w5 (scB P) cs)| v=>scA P v
structure EffA (t : TypeId) (x : Operand) (v : PV) (T : List (Nat × PV)) (o : Option Obj') (n : Nat) (K : PV → Obj' → Prop) : Prop where
  h : ∃ (s b : Nat) (z : List PV) (xs : Unit → List (List D)) (lg : Bool) (els : Unit → List (List D)), ty t = .sli s b z ∧ (ev (zE T) x = .sl xs ∨ (ev (zE T) x = .nil ∧ xs () = [])) ∧ Wid s xs ∧
    o = some (fH lg s els) ∧ ((∃ o' len : Unit → Nat, v = .osl n s o' len ∧ o' () = 0 ∧ len () = (els ()).length ∧ Room (fun _ => (((els ()).length + (xs ()).length : Nat) : Int)) b ∧
      K (.osl n s (fun _ => 0) (fun _ => (els ()).length + (xs ()).length)) (fH lg s (fun _ => els () ++ xs ()))) ∨
     (jO v = true ∧ Room (fun _ => ((xs ()).length : Nat)) b ∧ K (.osl n s (fun _ => 0) (fun _ => (xs ()).length)) (.arr s xs)))
def Mi (n:Nat):PV->Bool
 |.osl m _ _ _=>nqb m n| .agg _=>false| .tup _=>false| .fn _ _=>false| .ptr _ _=>false| .aptr _ _ _ _=>false| .mpv _=>false| _=>true
def NU:Operand->Bool
 |.tmp _=>false| _=>true
structure EffC (g:Operand) (as_:List Operand) (T:List (Nat×PV)) (o:Option Obj') (n:Nat) (K:PV->Obj'->Prop):Prop where
 h:∃ (f:FuncId) (caps:List PV) (hn:Nat->Nat) (cargs:List PV) (m k s:Nat) (els els':Unit->List (List D)) (o' l':Unit->Nat),ev (zE T) g=.fn f caps/\NU g=true /\
  LeL (evs (ev (zE T)) as_++caps) (oP hn cargs)/\Sound f cargs [] [(m,.arr s els)] (.osl k s o' l') [] [(k,.arr s els')]/\hn m=n/\hn k=n/\o=some (.arr s els)/\yT lv cargs=true /\
  yT (Mi n) (evs (ev (zE T)) as_)=true/\K (.osl n s o' l') (.arr s els')
def Mt (o:Oper) (n:Nat) (T:List (Nat×PV)) (O:List (Nat×Obj')) (K:PV->Obj'->Prop):Prop :=
 match o.guard with
 |some _=>False
 |none=>match o.op with
  |.call c=>(match c.callee with
   |.builtin .append=>(match c.args.toList,c.argTypes.toList,o.dst with
    |[b,x],[t,tx],some d=>(match Zc (ty tx)&&nqb d n with
     |true=>EffA t x (ev (zE T) b) T (yN O n) n K| false=>False)
    |_,_,_=>False)
   |.value g=>(match o.dst with
    |some d=>(match nqb d n with
     |true=>EffC g c.args.toList T (yN O n) n K| false=>False)
    |none=>False)
   |_=>False)
  |.alloc _=>(match uB o,yN O n with
   |some (d,x),some (.arr _ _)=>(match nqb d n with
    |true=>K (.ptr n 0) x| false=>False)
   |_,_=>False)
  |_=>False
def fK (an:List Nat) (i:Nat):List (Nat×Nat)->List Nat
 |[]=>[]| (e,m)::r=>(match (an.getD e 0).testBit i with|true=>fK an i r|false=>m::fK an i r)
def JB (an:List Nat) (i:Nat):List (Nat×Nat)->List Nat
 |[]=>[]| (e,m)::r=>(match (an.getD i 0).testBit e with|true=>m::JB an i r|false=>JB an i r)
def FM (an:List Nat) (i:Nat):List (Nat×Nat)->List Nat
 |[]=>[]| (e,m)::r=>(match (an.getD i 0).testBit e with|true=>FM an i r|false=>m::FM an i r)
def nZ (T:List (Nat×PV)) (n:Nat) (A:List Nat):List (Nat×Operand)->Bool
 |[]=>true| (_,.tmp t)::r=>xZ n (zE T t)&&(qO (zE T t) || yH t A)&&nZ T n A r| _::r=>nZ T n A r
def Y1 (n:Nat) (v:PV):List Nat->Bool
 |[]=>true| m::r=>(nqb m n || xZ m v)&&Y1 n v r
def MF (es:List (Nat×Nat)) (an:List Nat) (i:Nat) (o:Oper) (n:Nat) (T:List (Nat×PV)) (O:List (Nat×Obj')) (K:PV->Obj'->Prop):Prop :=
 match o.guard,o.op,o.dst,yN O n with
 |none,.build t parts,some d,some (.arr s _)=>(match ty t with
  |.st _ fs z=>(match Wv fs (vO (ev (zE T)) parts.toList) z with
   |some cs=>(match nqb d n&&nZ T n (JB an i es) parts.toList&&Y1 n (.agg cs) (FM an i es) with
    |true=>K (.agg cs) (.arr s (λ_=>[]))| false=>False)
   |none=>False)
  |_=>False)
 |_,_,_,_=>False
def Pe:Op->Bool
 |.build _ _=>true| _=>false
def Vt (all:List Oper) (es:List (Nat×Nat)) (an:List Nat) (lim:List (Nat×Obj')):List Oper->Nat->List (Nat×PV)->List (Nat×Obj')->(List (Nat×PV)->List (Nat×Obj')->Prop)->Prop
 |[],_,T,O,K=>K T O
 |o::r,i,T,O,K=>match yR es i with
  |some n=>(match Pe o.op with
   |true=>MF es an i o n T O (λv x=>Vt all es an lim r (i+1) (put ⟨T,[]⟩ o.dst v).tmps (setO O n x) K)| false=>Mt o n T O (λv x=>Vt all es an lim r (i+1) (put ⟨T,[]⟩ o.dst v).tmps (setO O n x) K))
  |none=>gH all o (zE (vZ (scC (fK an i es)) T)) (λ_=>bU false (xL (scC (fK an i es)) lim) o.op (ev (zE (vZ (scC (fK an i es)) T))) (λv=>XT all o (put ⟨T,[]⟩ o.dst v) (λp=>Vt all es an lim r (i+1) p.tmps O K))) (λ_=>Vt all es an lim r (i+1) (put ⟨T,[]⟩ o.dst (.tup [])).tmps O K)
def aV (P:List Nat):List (Nat×PV)->List (Nat×PV)
 |[]=>[]| (t,v)::r=>(t,(match yH t P with|true=>v|false=>scC P v))::aV P r
def RI (k:Nat) (es:List (Nat×Nat)):Bool :=
 KC (qY es)&&es.all (λe=>nlt e.1 k&&nlt e.2 1000000&&(match yR es e.1 with|some n=>nqb n e.2|none=>false))
def Fn (o:Oper) (l:List Bool):Bool:=o.after.toList.all λe=>!(Region.binds .any e) || l.getD e.on false
def Cy (ops:List Oper) (l:List Bool):List Nat:=(List.range ops.length).filter λi=>!(l.getD i true)&&(match ops[i]? with|some o=>Fn o l|none=>false)
def HL (o:Oper) (τ:Nat->PV):Bool :=
 match o.op with
 |.move _=>true| .nilCheck x=>(match ev τ x with|.ptr _ _=>true|_=>false)| .fieldAddr t x i=>(match ty t,ev τ x with|.st _ fs _,.ptr _ _=>(match fs[i]? with|some _=>true|none=>false)|.st _ fs _,.aptr _ _ _ _=>(match fs[i]? with|some _=>true|none=>false)|_,_=>false)| _=>false
def XX (o:Oper):Bool:=match o.guard with|some _=>false|none=>true
def VB (ops:List Oper) (l:List Bool) (τ:Nat->PV):List Nat->Option Nat
 |[]=>none
 |i::r=>(match ops[i]? with
  |some o=>(match HL o τ&&XX o&&Region.free .any ops.toArray l.toArray i with|true=>some i|false=>VB ops l τ r)| none=>VB ops l τ r)
def Ga (ops:List Oper) (j:Nat) (ps:PS) (K:PS->Prop):Prop :=
 match ops[j]? with
 |some o=>(match XX o with|true=>pY o ps K|false=>False)| none=>False
def MI (f:Nat->Prop):List Nat->Prop
 |[]=>True| i::r=>f i/\MI f r
def WU (ops:List Oper):Nat->List Bool->PS->(PS->Prop)->Prop
 |0,l,ps,K=>(match Cy ops l with|[]=>K ps|_::_=>False)
 |f+1,l,ps,K=>(match Cy ops l with
  |[]=>K ps
  |i::r=>(match VB ops l (zE ps.tmps) (i::r) with
   |some j=>Ga ops j ps (λps'=>WU ops f (l.set j true) ps' K)| none=>MI (λj=>Ga ops j ps (λps'=>WU ops f (l.set j true) ps' K)) (i::r)))
inductive DrawK (ops:List Oper) (ps:PS) (K:PS->Prop):Prop where
 |ef (k:Nat) (es:List (Nat×Nat)) (ps':PS) (hw:Wk ps ps') (hd:b9 ops k=true) (he:Mv ops k es=true) (hm:(ndO (yI (ops.take k))&&Vn ps' (yI (ops.take k)))=true)
  (hs:Zl ops es (yI (ops.take k)) (gI (qY es) ps'.objs) (ops.take k) 0 ps'.tmps ps'.objs (λT O=>Yu (yI (ops.take k)) T (jE ops (ops.drop k) ⟨T,O⟩ K))):DrawK ops ps K
 |ap (k:Nat) (es:List (Nat×Nat)) (ps':PS) (hw:Wk ps ps') (hd:b9 ops k=true) (he:RI k es=true)
  (hs:Vt ops es (anc ops) (gI (qY es) ps'.objs) (ops.take k) 0 ps'.tmps ps'.objs (λT O=>jE ops (ops.drop k) ⟨aV (qY es) T,xL (scC (qY es)) O⟩ K)):DrawK ops ps K
 |br (σ:Type) (inv:σ->PS) (good:σ->Prop) (ps':PS) (hw:Wk ps ps') (hsel:Region.noSelect ops.toArray=true) (hs:WU ops ops.length (List.replicate ops.length false) ps' (λq=>∃ s,good s/\Wk q (inv s))) (hks:∀ s,good s->K (inv s)):DrawK ops ps K
def Wc {σ:Type} (inv:σ->PS) (good:σ->Prop) (Q:Exit->PS->Prop):Exit->PS->Prop
 |.normal,ps'=>∃ s,good s/\Wk ps' (inv s)| e,ps'=>Q e ps'
structure Cut (b:Unit->Bool) (A B:(Exit->PS->Prop)->Prop) (Q:Exit->PS->Prop):Prop where
 h:((b ()=true->A Q)/\(b ()=false->B Q)) \/
  ∃ (σ:Type) (inv:σ->PS) (good:σ->Prop),(b ()=true->A (Wc inv good Q))/\(b ()=false->B (Wc inv good Q))/\∀ s,good s->Q .normal (inv s)
structure LoopOk (B:PS->(Exit->PS->Prop)->Prop) (ps:PS) (Q:Exit->PS->Prop):Prop where
 h:∃ (σ:Type) (inv:σ->PS) (good:σ->Prop) (mu:σ->Nat) (s0:σ),good s0/\Wk ps (inv s0) /\
  ∀ s,good s->B (inv s) (λe ps'=>match e with
   |.normal=>∃ s',good s'/\mu s'<mu s/\Wk ps' (inv s')| e=>Q e ps')
def Bn:List Oper->List Nat->Bool
 |[],_=>false
 |o::r,ds=>(match o.guard with
  |none=>Bn r (ds++[0])| some (j,_)=>(match nle 2 (ds.getD j 0) with|true=>true|false=>Bn r (ds++[ds.getD j 0+1])))
structure RegK (ops:List Oper) (ps:PS) (K:PS->Prop):Prop where
 h:jE ops ops ps K\/∃ (σ:Type) (inv:σ->PS) (good:σ->Prop),jE ops ops ps (λps'=>∃ s,good s/\Wk ps' (inv s))/\∀ s,good s->K (inv s)
def wp:Code->PS->(Exit->PS->Prop)->Prop
 |.skip,ps,Q=>Q .normal ps| .region _ ops false,ps,Q=>(match Bn ops.toList [] with|true=>RegK ops.toList ps (Q .normal)|false=>jE ops.toList ops.toList ps (Q .normal))| .region _ ops true,ps,Q=>DrawK ops.toList ps (Q .normal)
 |.seq a b,ps,Q=>wp a ps λe ps'=>match e with
   |.normal=>wp b ps' Q| e=>Q e ps'
 |.cond c a b,ps,Q=>match ev (zE ps.tmps) c with
   |.tt=>wp a ps Q| .ff=>wp b ps Q| .bool x=>Cut x (λQ=>wp a ps Q) (λQ=>wp b ps Q) Q| .nbool x=>Cut x (λQ=>wp b ps Q) (λQ=>wp a ps Q) Q| _=>False
 |.block id b,ps,Q=>wp b ps λe ps'=>match e with
   |.exit i=>(match nqb i id with|true=>Q .normal ps'|false=>Q (.exit i) ps')| e=>Q e ps'
 |.exit id,ps,Q=>Q (.exit id) ps| .ret,ps,Q=>Q .ret ps| .loop b,ps,Q=>LoopOk (λps Q=>wp b ps Q) ps Q| .label _,ps,Q=>Q .normal ps
 |.scope b,ps,Q=>wp b ps λe ps'=>match e with
   |.goto _=>False| e=>Q e ps'
 |_,_,_=>False
def rdV (t:Ty) (cs:List PV) (off:Nat):Option PV :=
 (match t.isNo with|true=>none|false=>(match nle (off+t.cells) cs.length with|true=>some ((match t.isA with|true=>.agg ((cs.drop off).take t.cells)|false=>cs.getD off .any))|false=>none))
def bE (ps:PS):List ResultVar->Option (List PV)
 |[]=>some []
 |.tmp t::r=>match bE ps r with
  |some l=>some (zE ps.tmps t::l)| none=>none
 |.cell a t::r=>match zE ps.tmps a with
  |.ptr n off=>match yN ps.objs n with
   |some (.box cs)=>match rdV (ty t) cs off,bE ps r with
    |some v,some l=>some (v::l)| _,_=>none
   |_=>none
  |_=>none
def lU:List PV->PV
 |[v]=>v| l=>.tup l
def Wl (h:Nat->Nat):List (Nat×Obj')->Prop
 |[]=>True| (n,_)::r=>(h n=n/\1000000<=n)/\Wl h r
structure RetOk (rs:List ResultVar) (r:PV) (kept' made:List (Nat×Obj')) (ps:PS):Prop where
 h:∃ ps' l hn,Wk ps ps'/\bE ps' rs=some l/\Le (lU l) (ren hn r)/\lv r=true/\qE hn ps'.objs (kept'++made)/\ndO (z9 hn (kept'++made))=true/\Wl hn kept'
def dU (rs:List ResultVar) (r:PV) (kept' made:List (Nat×Obj')):Exit->PS->Prop
 |.normal,ps=>RetOk rs r kept' made ps| .ret,ps=>RetOk rs r kept' made ps| _,_=>False
end Go.Proofs.YtaeaffgjdcigoaaGreat
