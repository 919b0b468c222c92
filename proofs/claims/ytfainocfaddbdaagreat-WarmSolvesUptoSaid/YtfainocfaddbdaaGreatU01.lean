/- A part of the proof: PmA. -/
import Derived.Orders
import Derived.WalkKit
import Derived.WalkSpells
import Derived.Deep.AppendSrc
import Derived.Laws.MakeOwn
set_option linter.all false
namespace Go.Proofs.YtfainocfaddbdaaGreat
open Go
theorem oM {p:Prop}(h:p:=by omega):p:=h
def y9:=@Bool.and_eq_true
def alT1:=@Bool.or_eq_true
def xD:=@List.mem_cons_self
def xI:=@List.mem_cons_of_mem
def bL:=@Option.some.injEq
def gM:=@Nat.add_zero
def yC:=@List.getD_eq_getElem?_getD
def wG:=@List.getElem?_take_of_lt
def fQ:=@List.getElem?_drop
def alT9:=@Nat.add_assoc
def aZ:=@Bool.eq_iff_iff
def zUK:=@List.map_eq_nil_iff
def y8:=@List.length_map
def yS:=@List.mem_map
def vU:=@List.getElem?_map
def tG:=@Prod.mk.injEq
def zZ:=@List.mem_of_getElem?
def x7:=@List.length_cons
def mP:=@List.getD_cons_succ
def zXE:=@List.foldl_cons
def w7:=@Nat.add_mul
def mN:=@Nat.add_comm
def mM:=@List.cons_append
def dN:=@Nat.zero_mul
def qE:=@Nat.mul_le_mul_right
def zMQ:=@List.mem_or_eq_of_mem_set
def z9:=@List.mem_cons
def uD:=@List.getElem?_append_left
def wO:=@Nat.mod_eq_of_lt
def uN:=@List.getElem?_append_right
def vS:=@Nat.le_trans
def gN:=@Nat.lt_of_lt_of_le
def wE:=@Nat.lt_or_ge
def zMP:=@Array.getElem?_eq_none
def zV:=@Nat.le_refl
def xA:=@Nat.zero_add
def oU:=@List.getD_cons_zero
def wN:=@List.getElem?_eq_getElem
def vR:=@Nat.mod_lt
def zLI:=@Array.getElem?_eq_getElem
def wH:=@Nat.zero_le
def zEU:=@List.mem_of_mem_take
def zQ1:=@List.mem_of_mem_drop
def dM:=@Nat.sub_self
def jT:=@List.getElem?_eq_none
def uC:=@List.map_cons
def oT:=@Iff.rfl
def zLH:=@Bool.not_eq_true'
def tF:=@List.nodup_cons
def wQ:=@List.mem_append
def kE:=@List.mem_singleton
def gL:=@List.map_append
def sJ:=@List.nodup_append
def kV:=@List.getElem?_set
def dB:=@List.mem_append_left
def kD:=@List.length_set
def c9:=@List.mem_append_right
def f9:=@List.length_nil
def yAU:=@Option.map_eq_some_iff
def zLG:=@Array.getD_eq_getD_getElem?
def zQ0:=@Option.isSome_iff_exists
def lJ:=@Array.toArray_toList
def zQZ:=@List.getElem?_toArray
def zQY:=@List.append_assoc
def c8:=@Nat.mul_one
def zQX:=@List.eq_of_mem_replicate
def lI:=@List.length_replicate
def wP:=@List.length_append
def cQ:=@Nat.div_lt_iff_lt_mul
def zLF:=@List.getElem?_range
def v5:=@Nat.mul_comm
def wZ:=@List.mem_range
def oS:=@Nat.div_eq_of_lt
def jS:=@List.eq_nil_of_length_eq_zero
def mL:=@List.mem_iff_getElem?
def zLE:=@Int.natCast_mul
def vI:=@Nat.mul_assoc
def zLD:=@Array.size_append
def zLC:=@List.size_toArray
def zMO:=@Option.getD_some
def aU:=@List.nil_append
def kC:=@List.append_nil
def zMN:=@Bool.and_true
def zMM:=@Array.toList_append
def zML:=@List.mem_filterMap
def mK:=@List.getElem?_cons_zero
def aT:=@List.getElem?_cons_succ
def zLB:=@List.all_cons
def zQW:=@List.take_succ_cons
def f8:=@List.all_eq_true
def v4:=@List.getElem?_eq_some_iff
def zLA:=@Bool.false_or
def tE:=@List.take_take
def tD:=@Nat.min_eq_left
def zQV:=@Array.getElem?_eq_some_iff
def vG:=@List.drop_length
def c7:=@List.drop_eq_getElem_cons
def vC:=@Option.some.inj
def zK9:=@Nat.min_self
def yN:=@List.take_of_length_le
def iQ:=@List.take_append_drop
def zNF:=@List.take_append_of_le_length
def rA:=@List.take_add_one
def xN:=@Int.toNat_natCast
def s9:=@UInt32.toNat_inj
def xJ:=@Nat.lt_of_le_of_lt
def zFJ:=@Int.fdiv_eq_ediv_of_nonneg
def zI1:=@Nat.div_lt_of_lt_mul
def mU:=@List.map_nil
def zBY:=@Nat.mul_zero
def d6:=@Nat.mod_add_div
def xS:=@Nat.pow_succ
def yE:=@Nat.mul_add
def aY:=@Nat.eq_zero_or_pos
def gC:=@List.getElem?_replicate
def s8:=@Nat.mul_le_mul
def k8:=@Nat.pow_add
def zBX:=@Nat.mul_left_comm
def c5:=@Nat.or_lt_two_pow
def aX:=@Nat.pow_pos
def zBW:=@Nat.mul_lt_mul''
def gB:=@Nat.pow_lt_pow_right
def dF:=@Nat.lt_trans
def gA:=@Nat.pow_le_pow_right
def zFI:=@Nat.pow_one
def mT:=@Nat.pow_zero
def mS:=@Nat.one_mul
def iP:=@Nat.two_pow_pos
def zI0:=@Nat.add_mul_div_left
def wW:=@Nat.mul_le_mul_left
def zNE:=@Nat.add_mul_mod_self_left
def d5:=@List.drop_of_length_le
def pZ:=@Nat.le_of_lt
def iO:=@Nat.pow_mul
def kS:=@List.length_drop
def uS:=@List.drop_zero
def zFH:=@List.set_append_right
def iN:=@List.drop_drop
def zIZ:=@Nat.le_mul_of_pos_left
def iM:=@Nat.mul_lt_mul_of_pos_right
def y4:=@List.length_take
def zBV:=@Nat.mul_succ
def zBU:=@Nat.lt_succ_self
def cZ:=@Nat.pos_of_ne_zero
def s7:=@Nat.gcd_comm
def zIY:=@Nat.gcd_zero_right
def zN:=@And.intro
def wM:=@Bool.true_and
def zIX:=@List.length_eq_zero_iff
def zBT:=@Nat.le_of_dvd
def zBS:=@Nat.gcd_dvd_right
def aW:=@Nat.div_le_self
def pY:=@Nat.div_one
def zBR:=@Int.natAbs_mul
def zFG:=@Int.natAbs_natCast
def zFF:=@Nat.mul_ne_zero
def dE:=@Int.natCast_nonneg
def zIW:=@Rat.divInt_ofNat
def zIV:=@Rat.sub_eq_add_neg
def zND:=@List.pairwise_cons
def zT1:=@List.foldl_append
def s6:=@List.take_length
def fF:=@Rat.div_def
def kR:=@Rat.mul_nonneg
def iL:=@Rat.inv_pos
def zBQ:=@Rat.inv_mul_cancel
def dD:=@Rat.le_of_lt
def s5:=@List.tail_drop
def aV:=@Classical.byContradiction
def zNC:=@List.length_erase_of_mem
def zIU:=@Rat.mul_inv_cancel
def qV:=@Rat.le_refl
def iK:=@Rat.neg_zero
def zBP:=@Rat.zero_mul
def sZ:=@Rat.mul_zero
def sY:=@Rat.add_zero
def mR:=@List.ext_getElem?
def mQ:=@List.getElem?_set_ne
def zIT:=@List.replicate_succ
def zFE:=@List.headD_cons
def zFD:=@List.tail_cons
def zFC:=@List.length_eraseIdx_of_lt
def iJ:=@List.nodup_range
def zFB:=@Nat.lt_succ_of_lt
def zFA:=@List.map_replicate
def dC:=@List.length_range
def mO:=@List.mem_map_of_mem
def zE9:=@Rat.intCast_mul
def zIS:=@List.range_succ_eq_map
def zE8:=@List.filter_cons
def zBO:=@List.length_filter_le
def nqb (m n:Nat):Bool:=m == n
def nle (m n:Nat):Bool:=(m-n) == 0
def nlt (m n:Nat):Bool:=(m+1-n) == 0
@[simp] theorem nqb_iff {m n:Nat}:(nqb m n=true)=(m=n):=by simp[nqb]
@[simp] theorem nle_iff {m n:Nat}:(nle m n=true)=(m<=n):=by simp[nle];omega
@[simp] theorem nlt_iff {m n:Nat}:(nlt m n=true)=(m<n):=by simp[nlt];omega
theorem yM {m n:Nat}(h:nqb m n=true):m=n:=by simpa using h
theorem t8 {m n:Nat}(h:nle m n=true):m<=n:=by simpa using h
theorem t7 {m n:Nat}(h:nlt m n=true):m<n:=by simpa using h
@[simp] theorem nqb_self (n:Nat):nqb n n=true:=by simp
inductive D where
 |int (k:IntKind) (n:Int)
 |bool (b:Bool)
 |str (s:ByteArray)
 |sl (els:List (List D))
 |any
inductive PV where
 |int (k:IntKind) (n:Unit->Int)
 |tt
 |ff
 |bool (b:Unit->Bool)
 |nbool (b:Unit->Bool)
 |str (s:Unit->ByteArray)
 |nil
 |sl (els:Unit->List (List D))
 |agg (cs:List PV)
 |tup (vs:List PV)
 |ptr (n off:Nat)
 |aptr (n s:Nat) (i:Unit->Nat) (off:Nat)
 |dptr (cs:List PV) (off:Nat)
 |osl (n s:Nat) (o len:Unit->Nat)
 |fn (f:FuncId) (caps:List PV)
 |nilf
 |nilp
 |emp
 |any
instance:Inhabited PV:=⟨.any⟩
inductive Obj' where
 |box (cs:List PV)
 |arr (s:Nat) (els:Unit->List (List D))
 |log (s:Nat) (els:Unit->List (List D))
 |lent (s:Nat) (els:Unit->List (List D))
 |mat (s:Nat) (rows:Unit->List (List (List D))) (hs:List (PV×(Unit->Nat)))
structure PS where
 tmps:List (Nat×PV)
 objs:List (Nat×Obj')
inductive Ty where
 |sc (z:PV)
 |st (n:Nat) (fs:List (Nat×Nat×Bool)) (z:List PV)
 |sli (n b:Nat) (z:List PV)
 |arr (len n:Nat) (ag:Bool) (z:List PV)
 |no
def Ty.cells:Ty->Nat
 |.sc _=>1| .sli _ _ _=>1| .st n _ _=>n| .arr len n _ _=>len*n| .no=>0
def Ty.isA:Ty->Bool
 |.st _ _ _=>true| .arr _ _ _ _=>true| _=>false
def Ty.isNo:Ty->Bool
 |.no=>true| _=>false
def Ty.zero:Ty->List PV
 |.sc z=>[z]| .sli _ _ _=>[.nil]| .st _ _ z=>z| .arr _ _ _ z=>z| .no=>[]
def zA (l:List (Nat×PV)) (t:Nat):PV :=
 match l with
 |[]=>.any| (u,v)::r=>(match nqb u t with|true=>v|false=>zA r t)
def uH (l:List (Nat×PV)) (t:Nat) (x:PV):List (Nat×PV) :=
 match l with
 |[]=>[(t,x)]| (u,v)::r=>(match nqb u t with|true=>(t,x)::r|false=>(u,v)::uH r t x)
def yA (l:List (Nat×Obj')) (n:Nat):Option Obj' :=
 match l with
 |[]=>none| (u,v)::r=>(match nqb u n with|true=>some v|false=>yA r n)
def setO (l:List (Nat×Obj')) (n:Nat) (x:Obj'):List (Nat×Obj') :=
 match l with
 |[]=>[(n,x)]| (u,v)::r=>(match nqb u n with|true=>(n,x)::r|false=>(u,v)::setO r n x)
def xT (l:List (Nat×Obj')) (n:Nat):List (Nat×Obj') :=
 match l with
 |[]=>[]| (u,v)::r=>(match nqb u n with|true=>xT r n|false=>(u,v)::xT r n)
def put (ps:PS) (d:Option Nat) (v:PV):PS :=
 match d with
 |none=>ps| some d=>⟨uH ps.tmps d v,ps.objs⟩
def vN:Value->PV
 |.int k n=>.int k (fun _=>n)| .bool true=>.tt| .bool false=>.ff| .string s=>.str (fun _=>s)| .slice none 0 0=>.nil| .nilFunc=>.nilf| .pointer none=>.nilp| _=>.any
def ev (τ:Nat->PV):Operand->PV
 |.tmp t=>τ t| .const v=>vN v| .func f=>.fn f []| .global _=>.any
def yP:PV->List PV
 |.agg cs=>cs| v=>[v]
def yV (f:PV->Bool):List PV->Bool
 |[]=>true| v::r=>f v&&yV f r
def vL (f:PV->PV):List PV->List PV
 |[]=>[]| v::r=>f v::vL f r
def rf0 (n:Nat):PV->Bool
 |.agg _=>false| .tup _=>false| .fn _ _=>false| .ptr m _=>!(nqb m n)| .aptr m _ _ _=>!(nqb m n)| .osl m _ _ _=>!(nqb m n)| _=>true
def rf1 (n:Nat):PV->Bool
 |.agg cs=>yV (rf0 n) cs| .tup cs=>yV (rf0 n) cs| .fn _ cs=>yV (rf0 n) cs| v=>rf0 n v
def xV (n:Nat):PV->Bool
 |.agg cs=>yV (rf1 n) cs| .tup cs=>yV (rf1 n) cs| .fn _ cs=>yV (rf1 n) cs| v=>rf0 n v
def w6 (n:Nat):List PV->Bool:=yV (xV n)
def jN:PV->Bool
 |.int _ _=>true| .tt=>true| .ff=>true| .bool _=>true| .nbool _=>true| .str _=>true| .sl _=>true| .any=>true| _=>false
def lM:PV->Bool
 |.nil=>true| v=>jN v
def oJ:PV->Bool
 |.nil=>true| .any=>false| v=>jN v
def pT:PV->Bool
 |.agg _=>false| .tup _=>false| .any=>false| _=>true
def gV:PV->Bool
 |.agg _=>true| v=>pT v
def tC:List (List PV)->Bool
 |[]=>true| v::r=>yV oJ v&&tC r
def zGZ:PV->PV
 |.nil=>.sl (fun _=>[])| v=>v
def toD:PV->D
 |.int k n=>.int k (n ())| .tt=>.bool true| .ff=>.bool false| .bool b=>.bool (b ())| .nbool b=>.bool (!(b ()))| .str s=>.str (s ())| .nil=>.sl []| .sl els=>.sl (els ())| _=>.any
def x6:List PV->List D
 |[]=>[]| v::r=>toD v::x6 r
def yI:List (List PV)->List (List D)
 |[]=>[]| v::r=>x6 v::yI r
def rowO:Obj'->Option (Nat×(Unit->List (List D)))
 |.arr s els=>some (s,els)| .log s els=>some (s,els)| .lent s els=>some (s,els)| .box _=>none| .mat _ _ _=>none
def fz0 (n:Nat) (o:Obj'):PV->PV
 |.agg _=>.any| .tup _=>.any| .fn _ _=>.any| .ptr m off=>(match nqb m n with|true=>(match o with|.box cs=>.dptr (vL zGZ cs) off|_=>.any)|false=>.ptr m off)| .aptr m s i off=>(match nqb m n with|true=>.any|false=>.aptr m s i off)| .osl m s i len=>(match nqb m n with|true=>(match rowO o with|some (s',els)=>(match nqb s s' with|true=>.sl (fun _=>((els ()).drop (i ())).take (len ()))|false=>.any)|none=>.any)|false=>.osl m s i len)| v=>v
def fz1 (n:Nat) (o:Obj'):PV->PV
 |.agg cs=>.agg (vL (fz0 n o) cs)| .tup cs=>.tup (vL (fz0 n o) cs)| .fn f cs=>.fn f (vL (fz0 n o) cs)| v=>fz0 n o v
def frz (n:Nat) (o:Obj'):PV->PV
 |.agg cs=>.agg (vL (fz1 n o) cs)| .tup cs=>.tup (vL (fz1 n o) cs)| .fn f cs=>.fn f (vL (fz1 n o) cs)| v=>fz0 n o v
def sc0 (n:Nat):PV->PV
 |.agg _=>.any| .tup _=>.any| .fn _ _=>.any| .ptr m off=>(match nqb m n with|true=>.any|false=>.ptr m off)| .aptr m s i off=>(match nqb m n with|true=>.any|false=>.aptr m s i off)| .osl m s i len=>(match nqb m n with|true=>.any|false=>.osl m s i len)| v=>v
def sc1 (n:Nat):PV->PV
 |.agg cs=>.agg (vL (sc0 n) cs)| .tup cs=>.tup (vL (sc0 n) cs)| .fn f cs=>.fn f (vL (sc0 n) cs)| v=>sc0 n v
def scr (n:Nat):PV->PV
 |.agg cs=>.agg (vL (sc1 n) cs)| .tup cs=>.tup (vL (sc1 n) cs)| .fn f cs=>.fn f (vL (sc1 n) cs)| v=>sc0 n v
def wX (f:PV->PV):List (Nat×PV)->List (Nat×PV)
 |[]=>[]| (t,v)::r=>(t,f v)::wX f r
def gF (f:PV->PV):List (PV×(Unit->Nat))->List (PV×(Unit->Nat))
 |[]=>[]| (v,k)::r=>(f v,k)::gF f r
def y5 (f:PV->PV):List (Nat×Obj')->List (Nat×Obj')
 |[]=>[]| (n,.box cs)::r=>(n,.box (vL f cs))::y5 f r| (n,.arr s els)::r=>(n,.arr s els)::y5 f r| (n,.log s els)::r=>(n,.log s els)::y5 f r| (n,.lent s els)::r=>(n,.lent s els)::y5 f r| (n,.mat s rows hs)::r=>(n,.mat s rows (gF f hs))::y5 f r
def rI (n:Nat):List (Nat×PV)->Bool
 |[]=>true| (_,v)::r=>xV n v&&rI n r
def aC (n:Nat):List (PV×(Unit->Nat))->Bool
 |[]=>true| (v,_)::r=>xV n v&&aC n r
def x5 (n:Nat):List (Nat×Obj')->Bool
 |[]=>nlt n 1000000| (m,.box cs)::r=>!(nqb m n)&&w6 n cs&&x5 n r| (m,.arr _ _)::r=>!(nqb m n)&&x5 n r| (m,.log _ _)::r=>!(nqb m n)&&x5 n r| (m,.lent _ _)::r=>!(nqb m n)&&x5 n r| (m,.mat _ _ hs)::r=>!(nqb m n)&&aC n hs&&x5 n r
def yJ (n:Nat) (ps:PS):Bool:=rI n ps.tmps&&x5 n ps.objs
def z8 (n:Nat):List Nat->Bool
 |[]=>false| m::r=>nqb m n || z8 n r
def nm0 (l:List Nat):PV->Bool
 |.agg _=>false| .tup _=>false| .fn _ _=>false| .ptr m _=>z8 m l| .aptr m _ _ _=>z8 m l| .osl m _ _ _=>z8 m l| _=>true
def nm1 (l:List Nat):PV->Bool
 |.agg cs=>yV (nm0 l) cs| .tup cs=>yV (nm0 l) cs| .fn _ cs=>yV (nm0 l) cs| v=>nm0 l v
def nmIn (l:List Nat):PV->Bool
 |.agg cs=>yV (nm1 l) cs| .tup cs=>yV (nm1 l) cs| .fn _ cs=>yV (nm1 l) cs| v=>nm0 l v
def uQ:List PV->Nat->List PV->List PV
 |c::cs,0,v::vs=>v::uQ cs 0 vs| cs,0,[]=>cs| [],_,_=>[]| c::cs,n+1,vs=>c::uQ cs n vs
structure Br (b:Unit->Bool) (A B:Unit->Prop):Prop where
 t:b ()=true->A ()
 f:b ()=false->B ()
structure InI64 (z:Unit->Int):Prop where
 lo:-9223372036854775808<=z ()
 hi:z ()<=9223372036854775807
structure Nn (b:Unit->Int):Prop where
 h:0<=b ()
structure Nz (b:Unit->Int):Prop where
 h:b ()≠0
structure Rng (k:Unit->Int) (len:Unit->Nat):Prop where
 lo:0<=k ()
 hi:k ()<(len ():Int)
structure IdxOk (n:Nat) (els:Unit->List (List D)) (k:Unit->Int) (K:List PV->Prop):Prop where
 h:0<=k ()/\∃ c:List PV,yV jN c=true/\c.length=n/\(els ())[(k ()).toNat]?=some (x6 c)/\K c
structure ElOk (n:Nat) (els:Unit->List (List D)) (i:Unit->Nat) (K:List PV->Prop):Prop where
 h:∃ c:List PV,yV jN c=true/\c.length=n/\(els ())[i ()]?=some (x6 c)/\K c
structure SlOk (l h:Unit->Int) (len:Unit->Nat):Prop where
 lo:0<=l ()
 mid:l ()<=h ()
 hi:h ()<=(len ():Int)
structure SlNe (l h:Unit->Int):Prop where
 lt:l ()<h ()
structure Wid (n:Nat) (els:Unit->List (List D)):Prop where
 h:∀ e,e∈els ()->e.length=n
structure Room (n:Unit->Int) (b:Nat):Prop where
 lo:0<=n ()
 hi:n ()*(b:Int)<=70368744177664
structure MkOk (x y:Unit->Int):Prop where
 lo:0<=x ()
 hi:x ()<=y ()
@[irreducible] def nx (k:IntKind) (n:Int):Int:=k.wrap n
@[irreducible] def iquo (a b:Int):Int:=a.tdiv b
@[irreducible] def irem (a b:Int):Int:=a.tmod b
@[irreducible] def ishl (k:IntKind) (a b:Int):Int:=k.wrap (a*2^(min b.toNat k.bits))
@[irreducible] def ishr (k:IntKind) (a b:Int):Int:=a.fdiv (2^(min b.toNat k.bits))
@[irreducible] def iand (k:IntKind) (a b:Int):Int:=k.wrap (BitVec.ofInt k.bits a &&& BitVec.ofInt k.bits b).toNat
@[irreducible] def ior (k:IntKind) (a b:Int):Int:=k.wrap (BitVec.ofInt k.bits a ||| BitVec.ofInt k.bits b).toNat
@[irreducible] def imax (a b:Int):Int:=if a<b then b else a
@[irreducible] def imin (a b:Int):Int:=if b<a then b else a
def brV (v:PV) (A B:Unit->Prop):Prop :=
 match v with
 |.tt=>A ()| .ff=>B ()| .bool b=>Br b A B| .nbool b=>Br b B A| _=>False
def zQP (k k':IntKind):Bool:=decide (k=k')
def arK (k:IntKind) (z:Unit->Int) (K:PV->Prop):Prop :=
 match k with
 |.i64=>InI64 z/\K (.int .i64 z)| k=>K (.int k (fun _=>nx k (z ())))
def intK (op:BinOp) (k:IntKind) (a:Unit->Int) (k':IntKind) (b:Unit->Int) (K:PV->Prop):Prop :=
 match op with
 |.shl=>Nn b/\K (.int k (fun _=>ishl k (a ()) (b ())))| .shr=>Nn b/\K (.int k (fun _=>ishr k (a ()) (b ())))
 |op=>(match zQP k k' with
  |true=>(match op with
   |.add=>arK k (fun _=>a ()+b ()) K| .sub=>arK k (fun _=>a ()-b ()) K| .mul=>arK k (fun _=>a ()*b ()) K| .quo=>Nz b/\K (.int k (fun _=>nx k (iquo (a ()) (b ()))))| .rem=>Nz b/\K (.int k (fun _=>irem (a ()) (b ())))| .and=>K (.int k (fun _=>iand k (a ()) (b ())))| .or=>K (.int k (fun _=>ior k (a ()) (b ())))| .eql=>K (.bool (fun _=>decide (a ()=b ())))| .neq=>K (.nbool (fun _=>decide (a ()=b ())))| .lss=>K (.bool (fun _=>decide (a ()<b ())))| .leq=>K (.bool (fun _=>decide (a ()<=b ())))| .gtr=>K (.bool (fun _=>decide (b ()<a ())))| .geq=>K (.bool (fun _=>decide (b ()<=a ())))| _=>False)
  |false=>False)
def bval:PV->Option (Unit->Bool)
 |.tt=>some (fun _=>true)| .ff=>some (fun _=>false)| .bool b=>some b| _=>none
def zBL:List PV->Option (List (Unit->Int))
 |[]=>some []
 |.int .i64 n::r=>match zBL r with
  |some l=>some (n::l)| none=>none
 |_=>none
def oA:List (Unit->Int)->List Int
 |[]=>[]| x::r=>x ()::oA r
def rdK (ty:Ty) (cs:List PV) (off:Nat) (K:PV->Prop):Prop :=
 (match ty.isNo with|true=>False|false=>(match nle (off+ty.cells) cs.length with|true=>K ((match ty.isA with|true=>.agg ((cs.drop off).take ty.cells)|false=>cs.getD off .any))|false=>False))
def zK7 (fs:List (Nat×Nat×Bool)):List (Nat×PV)->List PV->Option (List PV)
 |[],z=>some z
 |(i,v)::r,z=>match fs[i]? with
  |some (off,sz,_)=>(match nqb (yP v).length sz&&nle (off+sz) z.length&&gV v with|true=>zK7 fs r (uQ z off (yP v))|false=>none)| none=>none
def zK8 (n:Nat):List (Nat×PV)->List PV->Option (List PV)
 |[],z=>some z| (i,v)::r,z=>(match nqb (yP v).length n&&nle (i*n+n) z.length&&gV v with|true=>zK8 n r (uQ z (i*n) (yP v))|false=>none)
def rV (n:Nat):List (Nat×PV)->List (List PV)->Option (List (List PV))
 |[],z=>some z| (i,v)::r,z=>(match nqb (yP v).length n&&nlt i z.length&&gV v with|true=>rV n r (z.set i (yP v))|false=>none)
def pD (z:List PV):Nat->List (List PV)
 |0=>[]| n+1=>z::pD z n
def slOf:List (List PV)->PV
 |[]=>.emp| x::r=>.sl (fun _=>yI (x::r))
def uP (e:Operand->PV):List (Nat×Operand)->List (Nat×PV)
 |[]=>[]| (i,o)::r=>(i,e o)::uP e r
def evs (e:Operand->PV):List Operand->List PV
 |[]=>[]| o::r=>e o::evs e r
def lenK (t:Ty) (v:PV) (K:PV->Prop):Prop :=
 match t with
 |.sli _ _ _=>(match v with
  |.sl els=>K (.int .i64 (fun _=>((els ()).length:Nat)))| .osl _ _ _ l=>K (.int .i64 (fun _=>(l ():Nat)))| .nil=>K (.int .i64 (fun _=>0))| .emp=>K (.int .i64 (fun _=>0))| _=>False)
 |_=>False
def lX (e:Operand->PV) (d:Unit->Int):Option Operand->Option (Unit->Int)
 |none=>some d
 |some o=>match e o with
  |.int _ n=>some n| _=>none
def j7 (P:Program) (t:TypeId):Bool :=
 match P.underlying t with
 |some (.struct _)=>true| some (.array _ _)=>true| _=>false
def tySt (P:Program) (i:TypeInfo) (fs:Array Field):Ty :=
 match i.zero with
 |some (.agg zs)=>if (∀ f,f∈fs.toList->0<P.cellsOf f.type)/\zs.size=i.size then .st i.size (fs.toList.map fun f=>(f.offset,P.cellsOf f.type,j7 P f.type)) (zs.toList.map vN) else .no| _=>.no
def tySl (P:Program) (i:TypeInfo) (e:TypeId):Ty :=
 if i.size≠1 then .no else
 match i.zero,P.info? e with
 |some (.slice none 0 0),some j=>match j.zero with
  |some z=>if z.cells.size=j.size/\0<j.size/\0<j.bytes then .sli j.size j.bytes (z.cells.toList.map vN) else .no| none=>.no
 |_,_=>.no
def tyAr (P:Program) (i:TypeInfo) (len:Nat) (e:TypeId):Ty :=
 match i.zero with
 |some (.agg zs)=>if zs.size=i.size/\i.size=len*P.cellsOf e/\1<len/\0<P.cellsOf e/\(P.underlying e).isSome=true then .arr len (P.cellsOf e) (j7 P e) (zs.toList.map vN) else .no| _=>.no
def tySc (i:TypeInfo) (d:TypeDesc):Ty :=
 match i.zero with
 |some zv=>if i.size=1 then (match d,zv with
  |.int k,.int k' n=>if k=k' then .sc (.int k (fun _=>n)) else .no| .bool,.bool false=>.sc .ff| .func _ _ _,.nilFunc=>.sc .nilf| .pointer _,.pointer none=>.sc .nilp| .string,.string s=>.sc (.str (fun _=>s))| _,_=>.no) else .no
 |none=>.no
def jD (P:Program) (t:TypeId):Ty :=
 match P.info? t,P.underlying t with
 |some i,some (.struct fs)=>tySt P i fs| some i,some (.slice e)=>tySl P i e| some i,some (.array len e)=>tyAr P i len e| some i,some d=>tySc i d| _,_=>.no
end Go.Proofs.YtfainocfaddbdaaGreat
