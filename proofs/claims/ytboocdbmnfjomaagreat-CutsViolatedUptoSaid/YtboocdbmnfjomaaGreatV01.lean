/- A part of the proof: PmA. -/
import Derived.Orders
import Derived.WalkKit
import Derived.WalkSpells
import Derived.Deep.AppendSrc
import Derived.Laws.MakeOwn
set_option linter.all false
namespace Go.Proofs.YtboocdbmnfjomaaGreat
open Go
theorem oM {p:Prop}(h:p:=by omega):p:=h
def xA:=@Bool.and_eq_true
def QL:=@Bool.or_eq_true
def w6:=@List.mem_cons_of_mem
def t5:=@Option.some.injEq
def vH:=@List.mem_cons_self
def tM:=@Nat.add_zero
def fH:=@List.length_cons
def SV:=@List.getD_cons_succ
def F2:=@List.foldl_cons
def Vm:=@List.cons_append
def nF:=@Nat.zero_mul
def uR:=@Nat.mul_le_mul_right
def yS:=@List.mem_cons
def kL:=@Nat.mod_eq_of_lt
def wM:=@List.getD_eq_getElem?_getD
def dB:=@List.getElem?_append_right
def vF:=@Nat.le_trans
def f7:=@Nat.lt_of_lt_of_le
def yQ:=@Nat.le_refl
def wQ:=@Nat.zero_add
def Rx:=@List.getD_cons_zero
def uQ:=@Nat.mod_lt
def xO:=@Nat.zero_le
def nC:=@List.mem_of_mem_take
def Jw:=@List.mem_of_mem_drop
def iA:=@Nat.sub_self
def pK:=@List.getElem?_append_left
def jK:=@Nat.add_mul
def kK:=@List.map_cons
def WY:=@Bool.not_eq_true'
def WX:=@List.nodup_cons
def wZ:=@List.mem_append
def fZ:=@List.mem_singleton
def qS:=@List.map_append
def l9:=@List.nodup_append
def y9:=@List.mem_map
def rM:=@List.getElem?_eq_none
def dV:=@List.length_set
def Zk:=@List.mem_append_left
def nA:=@List.mem_append_right
def m9:=@Nat.add_assoc
def jJ:=@List.getElem?_map
def Yr:=@Option.map_eq_some_iff
def GQ:=@Prod.mk.injEq
def yE:=@List.mem_of_getElem?
def Jv:=@Option.isSome_iff_exists
def GP:=@Array.getD_eq_getD_getElem?
def Rw:=@List.mem_or_eq_of_mem_set
def Zj:=@Nat.mul_one
def Ju:=@Array.getElem?_eq_getElem
def Rv:=@List.eq_of_mem_replicate
def GO:=@List.length_replicate
def Yq:=@Nat.add_comm
def alT53:=@List.length_append
def uX:=@List.getElem?_take_of_lt
def xP:=@List.length_take
def uP:=@List.length_drop
def Ac:=@Nat.min_eq_left
def d5:=@List.getElem?_drop
def Zi:=@Nat.div_lt_iff_lt_mul
def Jt:=@Nat.div_eq_of_lt
def gO:=@List.eq_nil_of_length_eq_zero
def Ru:=@List.mem_iff_getElem?
def jI:=@Nat.mul_comm
def GN:=@Array.size_append
def Js:=@List.size_toArray
def vS:=@List.drop_zero
def Jr:=@Option.getD_some
def uG:=@Nat.lt_or_ge
def gM:=@Nat.mul_assoc
def Ab:=@List.nil_append
def vM:=@List.append_nil
def l8:=@List.getElem?_cons_zero
def m8:=@List.getElem?_cons_succ
def Jq:=@List.all_cons
def GM:=@List.take_succ_cons
def bX:=@List.all_eq_true
def uW:=@List.getElem?_eq_getElem
def sZ:=@List.mem_range
def rL:=@Bool.false_or
def vE:=@List.drop_length
def w8:=@List.getElem?_eq_some_iff
def WW:=@List.drop_eq_getElem_cons
def yU:=@List.take_of_length_le
def rK:=@Bool.eq_iff_iff
def Jp:=@List.take_append_drop
def rJ:=@List.take_add_one
def Zh:=@List.append_assoc
def uF:=@Int.toNat_natCast
def l7:=@List.map_take
def Zg:=@List.map_drop
def Zf:=@UInt32.toNat_inj
def dU:=@List.length_nil
def xR:=@Nat.lt_of_le_of_lt
def Aa:=@Int.fdiv_eq_ediv_of_nonneg
def WV:=@List.map_nil
def WU:=@Nat.mod_add_div
def uO:=@Nat.pow_succ
def kP:=@Nat.mul_add
def B9:=@Nat.mul_le_mul
def Z4:=@Nat.or_lt_two_pow
def Z3:=@Nat.mul_lt_mul''
def bA:=@Nat.pow_lt_pow_right
def jS:=@Nat.pow_add
def QK:=@Nat.pow_pos
def gC:=@Nat.lt_trans
def tQ:=@Nat.eq_zero_or_pos
def c8:=@Nat.pow_le_pow_right
def QJ:=@List.take_zero
def eC:=@Nat.two_pow_pos
def T8:=@Nat.add_mul_div_left
def Aj:=@Nat.add_mul_mod_self_left
def i9:=@List.drop_of_length_le
def tP:=@Nat.le_of_lt
def i8:=@Nat.pow_mul
def wN:=@Nat.mul_le_mul_left
def Z2:=@List.drop_drop
def Ai:=@Nat.le_mul_of_pos_left
def i7:=@Nat.mul_lt_mul_of_pos_right
def Z1:=@Nat.mul_succ
def HD:=@Nat.lt_succ_self
def s5:=@Nat.pos_of_ne_zero
def xQ:=@Bool.true_and
def HC:=@List.length_eq_zero_iff
def QI:=@Nat.gcd_dvd_right
def i6:=@Nat.div_le_self
def Z0:=@Nat.mul_ne_zero
def Ah:=@Rat.sub_eq_add_neg
def s4:=@Int.natCast_nonneg
def s3:=@Bool.false_and
def nE:=@Rat.divInt_ofNat
def W4:=@List.pairwise_cons
def qP:=@Option.some.inj
def yH:=@List.length_map
def HB:=@List.foldl_append
def QH:=@List.set_append_right
def vV:=@List.take_length
def tN:=@List.length_reverse
def T7:=@Rat.mul_nonneg
def i5:=@Rat.div_def
def T6:=@Rat.le_of_lt
def W0:=@List.mem_flatMap
def ZZ:=@List.tail_drop
def nD:=@List.range_succ
def ZY:=@List.flatMap_append
def ZX:=@List.flatMap_cons
def ZW:=@List.length_range
def QG:=@List.map_map
def QF:=@Classical.byContradiction
def Ag:=@Rat.le_refl
def cZ:=@List.getElem?_set
def Hz:=@Rat.neg_zero
def Hy:=@Rat.zero_mul
def Af:=@Rat.mul_zero
def Ae:=@Rat.add_zero
def WZ:=@List.ext_getElem?
def T5:=@List.getElem?_set_ne
def QE:=@List.getElem?_replicate
def Ad:=@Nat.lt_succ_of_lt
def TZ:=@List.mem_map_of_mem
def nqb (m n:Nat):Bool:=m == n
def nle (m n:Nat):Bool:=(m-n) == 0
def nlt (m n:Nat):Bool:=(m+1-n) == 0
@[simp] theorem nqb_iff {m n:Nat}:(nqb m n=true)=(m=n):=by simp[nqb]
@[simp] theorem nle_iff {m n:Nat}:(nle m n=true)=(m<=n):=by simp[nle];omega
@[simp] theorem nlt_iff {m n:Nat}:(nlt m n=true)=(m<n):=by simp[nlt];omega
theorem y5 {m n:Nat}(h:nqb m n=true):m=n:=by simpa using h
theorem mP {m n:Nat}(h:nle m n=true):m<=n:=by simpa using h
theorem mO {m n:Nat}(h:nlt m n=true):m<n:=by simpa using h
@[simp] theorem nqb_self (n:Nat):nqb n n=true:=by simp
inductive D where
 |int (k:IntKind) (n:Int)
 |bool (b:Bool)
 |str (s:ByteArray)
 |sl (els:List (List D))
 |any
inductive PV where
 |int (k:IntKind) (n:Unit->Int)
 |tt
 |ff
 |bool (b:Unit->Bool)
 |nbool (b:Unit->Bool)
 |str (s:Unit->ByteArray)
 |nil
 |sl (els:Unit->List (List D))
 |agg (cs:List PV)
 |tup (vs:List PV)
 |ptr (n off:Nat)
 |aptr (n s:Nat) (i:Unit->Nat) (off:Nat)
 |dptr (cs:List PV) (off:Nat)
 |osl (n s:Nat) (o len:Unit->Nat)
 |fn (f:FuncId) (caps:List PV)
 |nilf
 |nilp
 |emp
 |any
instance:Inhabited PV:=⟨.any⟩
inductive Obj' where
 |box (cs:List PV)
 |arr (s:Nat) (els:Unit->List (List D))
 |log (s:Nat) (els:Unit->List (List D))
 |lent (s:Nat) (els:Unit->List (List D))
 |mat (s:Nat) (rows:Unit->List (List (List D))) (hs:List (PV×(Unit->Nat)))
structure PS where
 tmps:List (Nat×PV)
 objs:List (Nat×Obj')
inductive Ty where
 |sc (z:PV)
 |st (n:Nat) (fs:List (Nat×Nat×Bool)) (z:List PV)
 |sli (n b:Nat) (z:List PV)
 |arr (len n:Nat) (ag:Bool) (z:List PV)
 |no
def Ty.cells:Ty->Nat
 |.sc _=>1| .sli _ _ _=>1| .st n _ _=>n| .arr len n _ _=>len*n| .no=>0
def Ty.isA:Ty->Bool
 |.st _ _ _=>true| .arr _ _ _ _=>true| _=>false
def Ty.isNo:Ty->Bool
 |.no=>true| _=>false
def Ty.zero:Ty->List PV
 |.sc z=>[z]| .sli _ _ _=>[.nil]| .st _ _ z=>z| .arr _ _ _ z=>z| .no=>[]
def zD (l:List (Nat×PV)) (t:Nat):PV :=
 match l with
 |[]=>.any| (u,v)::r=>(match nqb u t with|true=>v|false=>zD r t)
def vQ (l:List (Nat×PV)) (t:Nat) (x:PV):List (Nat×PV) :=
 match l with
 |[]=>[(t,x)]| (u,v)::r=>(match nqb u t with|true=>(t,x)::r|false=>(u,v)::vQ r t x)
def yK (l:List (Nat×Obj')) (n:Nat):Option Obj' :=
 match l with
 |[]=>none| (u,v)::r=>(match nqb u n with|true=>some v|false=>yK r n)
def setO (l:List (Nat×Obj')) (n:Nat) (x:Obj'):List (Nat×Obj') :=
 match l with
 |[]=>[(n,x)]| (u,v)::r=>(match nqb u n with|true=>(n,x)::r|false=>(u,v)::setO r n x)
def xK (l:List (Nat×Obj')) (n:Nat):List (Nat×Obj') :=
 match l with
 |[]=>[]| (u,v)::r=>(match nqb u n with|true=>xK r n|false=>(u,v)::xK r n)
def put (ps:PS) (d:Option Nat) (v:PV):PS :=
 match d with
 |none=>ps| some d=>⟨vQ ps.tmps d v,ps.objs⟩
def w7:Value->PV
 |.int k n=>.int k (λ_=>n)| .bool true=>.tt| .bool false=>.ff| .string s=>.str (λ_=>s)| .slice none 0 0=>.nil| .nilFunc=>.nilf| .pointer none=>.nilp| _=>.any
def ev (τ:Nat->PV):Operand->PV
 |.tmp t=>τ t| .const v=>w7 v| .func f=>.fn f []| .global _=>.any
def yW:PV->List PV
 |.agg cs=>cs| v=>[v]
def yX (f:PV->Bool):List PV->Bool
 |[]=>true| v::r=>f v&&yX f r
def wW (f:PV->PV):List PV->List PV
 |[]=>[]| v::r=>f v::wW f r
def rf0 (n:Nat):PV->Bool
 |.agg _=>false| .tup _=>false| .fn _ _=>false| .ptr m _=>!(nqb m n)| .aptr m _ _ _=>!(nqb m n)| .osl m _ _ _=>!(nqb m n)| _=>true
def rf1 (n:Nat):PV->Bool
 |.agg cs=>yX (rf0 n) cs| .tup cs=>yX (rf0 n) cs| .fn _ cs=>yX (rf0 n) cs| v=>rf0 n v
def xN (n:Nat):PV->Bool
 |.agg cs=>yX (rf1 n) cs| .tup cs=>yX (rf1 n) cs| .fn _ cs=>yX (rf1 n) cs| v=>rf0 n v
def wL (n:Nat):List PV->Bool:=yX (xN n)
def qT:PV->Bool
 |.int _ _=>true| .tt=>true| .ff=>true| .bool _=>true| .nbool _=>true| .str _=>true| .sl _=>true| .any=>true| _=>false
def iD:PV->Bool
 |.nil=>true| v=>qT v
def o8:PV->Bool
 |.nil=>true| .any=>false| v=>qT v
def tE:PV->Bool
 |.agg _=>false| .tup _=>false| .any=>false| _=>true
def gU:PV->Bool
 |.agg _=>true| v=>tE v
def m5:List (List PV)->Bool
 |[]=>true| v::r=>yX o8 v&&m5 r
def Wy:PV->PV
 |.nil=>.sl (λ_=>[])| v=>v
def toD:PV->D
 |.int k n=>.int k (n ())| .tt=>.bool true| .ff=>.bool false| .bool b=>.bool (b ())| .nbool b=>.bool (!(b ()))| .str s=>.str (s ())| .nil=>.sl []| .sl els=>.sl (els ())| _=>.any
def y7:List PV->List D
 |[]=>[]| v::r=>toD v::y7 r
def zI:List (List PV)->List (List D)
 |[]=>[]| v::r=>y7 v::zI r
def W8:Obj'->Option (Nat×(Unit->List (List D)))
 |.arr s els=>some (s,els)| .log s els=>some (s,els)| .lent s els=>some (s,els)| .box _=>none| .mat _ _ _=>none
def fz0 (n:Nat) (o:Obj'):PV->PV
 |.agg _=>.any| .tup _=>.any| .fn _ _=>.any| .ptr m off=>(match nqb m n with|true=>(match o with|.box cs=>.dptr (wW Wy cs) off|_=>.any)|false=>.ptr m off)| .aptr m s i off=>(match nqb m n with|true=>.any|false=>.aptr m s i off)| .osl m s i len=>(match nqb m n with|true=>(match W8 o with|some (s',els)=>(match nqb s s' with|true=>.sl (λ_=>((els ()).drop (i ())).take (len ()))|false=>.any)|none=>.any)|false=>.osl m s i len)| v=>v
def fz1 (n:Nat) (o:Obj'):PV->PV
 |.agg cs=>.agg (wW (fz0 n o) cs)| .tup cs=>.tup (wW (fz0 n o) cs)| .fn f cs=>.fn f (wW (fz0 n o) cs)| v=>fz0 n o v
def frz (n:Nat) (o:Obj'):PV->PV
 |.agg cs=>.agg (wW (fz1 n o) cs)| .tup cs=>.tup (wW (fz1 n o) cs)| .fn f cs=>.fn f (wW (fz1 n o) cs)| v=>fz0 n o v
def sc0 (n:Nat):PV->PV
 |.agg _=>.any| .tup _=>.any| .fn _ _=>.any| .ptr m off=>(match nqb m n with|true=>.any|false=>.ptr m off)| .aptr m s i off=>(match nqb m n with|true=>.any|false=>.aptr m s i off)| .osl m s i len=>(match nqb m n with|true=>.any|false=>.osl m s i len)| v=>v
def sc1 (n:Nat):PV->PV
 |.agg cs=>.agg (wW (sc0 n) cs)| .tup cs=>.tup (wW (sc0 n) cs)| .fn f cs=>.fn f (wW (sc0 n) cs)| v=>sc0 n v
def scr (n:Nat):PV->PV
 |.agg cs=>.agg (wW (sc1 n) cs)| .tup cs=>.tup (wW (sc1 n) cs)| .fn f cs=>.fn f (wW (sc1 n) cs)| v=>sc0 n v
def xW (f:PV->PV):List (Nat×PV)->List (Nat×PV)
 |[]=>[]| (t,v)::r=>(t,f v)::xW f r
def gG (f:PV->PV):List (PV×(Unit->Nat))->List (PV×(Unit->Nat))
 |[]=>[]| (v,k)::r=>(f v,k)::gG f r
def y6 (f:PV->PV):List (Nat×Obj')->List (Nat×Obj')
 |[]=>[]| (n,.box cs)::r=>(n,.box (wW f cs))::y6 f r| (n,.arr s els)::r=>(n,.arr s els)::y6 f r| (n,.log s els)::r=>(n,.log s els)::y6 f r| (n,.lent s els)::r=>(n,.lent s els)::y6 f r| (n,.mat s rows hs)::r=>(n,.mat s rows (gG f hs))::y6 f r
def r4 (n:Nat):List (Nat×PV)->Bool
 |[]=>true| (_,v)::r=>xN n v&&r4 n r
def sH (n:Nat):List (PV×(Unit->Nat))->Bool
 |[]=>true| (v,_)::r=>xN n v&&sH n r
def xV (n:Nat):List (Nat×Obj')->Bool
 |[]=>nlt n 1000000| (m,.box cs)::r=>!(nqb m n)&&wL n cs&&xV n r| (m,.arr _ _)::r=>!(nqb m n)&&xV n r| (m,.log _ _)::r=>!(nqb m n)&&xV n r| (m,.lent _ _)::r=>!(nqb m n)&&xV n r| (m,.mat _ _ hs)::r=>!(nqb m n)&&sH n hs&&xV n r
def yO (n:Nat) (ps:PS):Bool:=r4 n ps.tmps&&xV n ps.objs
def yM (n:Nat):List Nat->Bool
 |[]=>false| m::r=>nqb m n || yM n r
def nm0 (l:List Nat):PV->Bool
 |.agg _=>false| .tup _=>false| .fn _ _=>false| .ptr m _=>yM m l| .aptr m _ _ _=>yM m l| .osl m _ _ _=>yM m l| _=>true
def nm1 (l:List Nat):PV->Bool
 |.agg cs=>yX (nm0 l) cs| .tup cs=>yX (nm0 l) cs| .fn _ cs=>yX (nm0 l) cs| v=>nm0 l v
def nmIn (l:List Nat):PV->Bool
 |.agg cs=>yX (nm1 l) cs| .tup cs=>yX (nm1 l) cs| .fn _ cs=>yX (nm1 l) cs| v=>nm0 l v
def uV:List PV->Nat->List PV->List PV
 |c::cs,0,v::vs=>v::uV cs 0 vs| cs,0,[]=>cs| [],_,_=>[]| c::cs,n+1,vs=>c::uV cs n vs
structure Br (b:Unit->Bool) (A B:Unit->Prop):Prop where
 t:b ()=true->A ()
 f:b ()=false->B ()
structure InI64 (z:Unit->Int):Prop where
 lo:-9223372036854775808<=z ()
 hi:z ()<=9223372036854775807
structure Nn (b:Unit->Int):Prop where
 h:0<=b ()
structure Nz (b:Unit->Int):Prop where
 h:b ()≠0
structure Rng (k:Unit->Int) (len:Unit->Nat):Prop where
 lo:0<=k ()
 hi:k ()<(len ():Int)
structure IdxOk (n:Nat) (els:Unit->List (List D)) (k:Unit->Int) (K:List PV->Prop):Prop where
 h:0<=k ()/\∃ c:List PV,yX qT c=true/\c.length=n/\(els ())[(k ()).toNat]?=some (y7 c)/\K c
structure ElOk (n:Nat) (els:Unit->List (List D)) (i:Unit->Nat) (K:List PV->Prop):Prop where
 h:∃ c:List PV,yX qT c=true/\c.length=n/\(els ())[i ()]?=some (y7 c)/\K c
structure SlOk (l h:Unit->Int) (len:Unit->Nat):Prop where
 lo:0<=l ()
 mid:l ()<=h ()
 hi:h ()<=(len ():Int)
structure SlT (l h:Unit->Int) (A B:Prop):Prop where
 h:((l ()<h ()\/l ()=0)/\A)\/(l ()=h ()/\B)
structure SlM (h k : Unit → Int) (len : Unit → Nat) : Prop where
 lo : 0 ≤ h ()
 mid : h () ≤ k ()
 hi : k () ≤ (len () : Int)
structure Wid (n:Nat) (els:Unit->List (List D)):Prop where
 h:∀ e,e∈els ()->e.length=n
structure Room (n:Unit->Int) (b:Nat):Prop where
 lo:0<=n ()
 hi:n ()*(b:Int)<=70368744177664
structure MkOk (x y:Unit->Int):Prop where
 lo:0<=x ()
 hi:x ()<=y ()
@[irreducible] def nx (k:IntKind) (n:Int):Int:=k.wrap n
@[irreducible] def iquo (a b:Int):Int:=a.tdiv b
@[irreducible] def irem (a b:Int):Int:=a.tmod b
@[irreducible] def ishl (k:IntKind) (a b:Int):Int:=k.wrap (a*2^(min b.toNat k.bits))
@[irreducible] def ishr (k:IntKind) (a b:Int):Int:=a.fdiv (2^(min b.toNat k.bits))
@[irreducible] def iand (k:IntKind) (a b:Int):Int:=k.wrap (BitVec.ofInt k.bits a &&& BitVec.ofInt k.bits b).toNat
@[irreducible] def ior (k:IntKind) (a b:Int):Int:=k.wrap (BitVec.ofInt k.bits a ||| BitVec.ofInt k.bits b).toNat
@[irreducible] def imax (a b:Int):Int:=if a<b then b else a
@[irreducible] def imin (a b:Int):Int:=if b<a then b else a
def brV (v:PV) (A B:Unit->Prop):Prop :=
 match v with
 |.tt=>A ()| .ff=>B ()| .bool b=>Br b A B| .nbool b=>Br b B A| _=>False
def HT (k k':IntKind):Bool:=decide (k=k')
def arK (k:IntKind) (z:Unit->Int) (K:PV->Prop):Prop :=
 match k with
 |.i64=>InI64 z/\K (.int .i64 z)| k=>K (.int k (λ_=>nx k (z ())))
def Fz (op:BinOp) (k:IntKind) (a:Unit->Int) (k':IntKind) (b:Unit->Int) (K:PV->Prop):Prop :=
 match op with
 |.shl=>Nn b/\K (.int k (λ_=>ishl k (a ()) (b ())))| .shr=>Nn b/\K (.int k (λ_=>ishr k (a ()) (b ())))
 |op=>(match HT k k' with
  |true=>(match op with
   |.add=>arK k (λ_=>a ()+b ()) K| .sub=>arK k (λ_=>a ()-b ()) K| .mul=>arK k (λ_=>a ()*b ()) K| .quo=>Nz b/\K (.int k (λ_=>nx k (iquo (a ()) (b ()))))| .rem=>Nz b/\K (.int k (λ_=>irem (a ()) (b ())))| .and=>K (.int k (λ_=>iand k (a ()) (b ())))| .or=>K (.int k (λ_=>ior k (a ()) (b ())))| .eql=>K (.bool (λ_=>decide (a ()=b ())))| .neq=>K (.nbool (λ_=>decide (a ()=b ())))| .lss=>K (.bool (λ_=>decide (a ()<b ())))| .leq=>K (.bool (λ_=>decide (a ()<=b ())))| .gtr=>K (.bool (λ_=>decide (b ()<a ())))| .geq=>K (.bool (λ_=>decide (b ()<=a ())))| _=>False)
  |false=>False)
def BP:PV->Option (Unit->Bool)
 |.tt=>some (λ_=>true)| .ff=>some (λ_=>false)| .bool b=>some b| _=>none
inductive Fld where
 |i (n:Unit->Int)
 |b (n:Unit->Bool)
def Fld.v:Fld->Value
 |.i n=>.int .i64 (n ())| .b n=>.bool (n ())
def Bg:PV->Option Fld
 |.int .i64 n=>some (.i n)
 |v=>match BP v with
  |some b=>some (.b b)| none=>none
def ZK:List PV->Option (List Fld)
 |[]=>some []
 |v::r=>match Bg v,ZK r with
  |some x,some l=>some (x::l)| _,_=>none
def oX:List Fld->List Value
 |[]=>[]| x::r=>x.v::oX r
def rdK (ty:Ty) (cs:List PV) (off:Nat) (K:PV->Prop):Prop :=
 (match ty.isNo with|true=>False|false=>(match nle (off+ty.cells) cs.length with|true=>K ((match ty.isA with|true=>.agg ((cs.drop off).take ty.cells)|false=>cs.getD off .any))|false=>False))
def Wg (fs:List (Nat×Nat×Bool)):List (Nat×PV)->List PV->Option (List PV)
 |[],z=>some z
 |(i,v)::r,z=>match fs[i]? with
  |some (off,sz,_)=>(match nqb (yW v).length sz&&nle (off+sz) z.length&&gU v with|true=>Wg fs r (uV z off (yW v))|false=>none)| none=>none
def V9 (n:Nat):List (Nat×PV)->List PV->Option (List PV)
 |[],z=>some z| (i,v)::r,z=>(match nqb (yW v).length n&&nle (i*n+n) z.length&&gU v with|true=>V9 n r (uV z (i*n) (yW v))|false=>none)
def sS (n:Nat):List (Nat×PV)->List (List PV)->Option (List (List PV))
 |[],z=>some z| (i,v)::r,z=>(match nqb (yW v).length n&&nlt i z.length&&gU v with|true=>sS n r (z.set i (yW v))|false=>none)
def rO (z:List PV):Nat->List (List PV)
 |0=>[]| n+1=>z::rO z n
def AR:List (List PV)->PV
 |[]=>.emp| x::r=>.sl (λ_=>zI (x::r))
def vA (e:Operand->PV):List (Nat×Operand)->List (Nat×PV)
 |[]=>[]| (i,o)::r=>(i,e o)::vA e r
def evs (e:Operand->PV):List Operand->List PV
 |[]=>[]| o::r=>e o::evs e r
def Te (t:Ty) (v:PV) (K:PV->Prop):Prop :=
 match t with
 |.sli _ _ _=>(match v with
  |.sl els=>K (.int .i64 (λ_=>((els ()).length:Nat)))| .osl _ _ _ l=>K (.int .i64 (λ_=>(l ():Nat)))| .nil=>K (.int .i64 (λ_=>0))| .emp=>K (.int .i64 (λ_=>0))| _=>False)
 |_=>False
def iM (e:Operand->PV) (d:Unit->Int):Option Operand->Option (Unit->Int)
 |none=>some d
 |some o=>match e o with
  |.int _ n=>some n| _=>none
def j8 (P:Program) (t:TypeId):Bool :=
 match P.underlying t with
 |some (.struct _)=>true| some (.array _ _)=>true| _=>false
def GX (P:Program) (i:TypeInfo) (fs:Array Field):Ty :=
 match i.zero with
 |some (.agg zs)=>if (∀ f,f∈fs.toList->0<P.cellsOf f.type)/\zs.size=i.size/\(∀ f,f∈fs.toList->(P.underlying f.type).isSome=true) then .st i.size (fs.toList.map λf=>(f.offset,P.cellsOf f.type,j8 P f.type)) (zs.toList.map w7) else .no| _=>.no
def Ap (P:Program) (i:TypeInfo) (e:TypeId):Ty :=
 if i.size≠1 then .no else
 match i.zero,P.info? e with
 |some (.slice none 0 0),some j=>match j.zero with
  |some z=>if z.cells.size=j.size/\0<j.size/\0<j.bytes then .sli j.size j.bytes (z.cells.toList.map w7) else .no| none=>.no
 |_,_=>.no
def AJ (P:Program) (i:TypeInfo) (len:Nat) (e:TypeId):Ty :=
 match i.zero with
 |some (.agg zs)=>if zs.size=i.size/\i.size=len*P.cellsOf e/\1<len/\0<P.cellsOf e/\(P.underlying e).isSome=true then .arr len (P.cellsOf e) (j8 P e) (zs.toList.map w7) else .no| _=>.no
def GY (i:TypeInfo) (d:TypeDesc):Ty :=
 match i.zero with
 |some zv=>if i.size=1 then (match d,zv with
  |.int k,.int k' n=>if k=k' then .sc (.int k (λ_=>n)) else .no| .bool,.bool false=>.sc .ff| .func _ _ _,.nilFunc=>.sc .nilf| .pointer _,.pointer none=>.sc .nilp| .map _ _,.map none=>.sc .any| .string,.string s=>.sc (.str (λ_=>s))| _,_=>.no) else .no
 |none=>.no
def vN (P:Program) (t:TypeId):Ty :=
 match P.info? t,P.underlying t with
 |some i,some (.struct fs)=>GX P i fs| some i,some (.slice e)=>Ap P i e| some i,some (.array len e)=>AJ P i len e| some i,some d=>GY i d| _,_=>.no
end Go.Proofs.YtboocdbmnfjomaaGreat
