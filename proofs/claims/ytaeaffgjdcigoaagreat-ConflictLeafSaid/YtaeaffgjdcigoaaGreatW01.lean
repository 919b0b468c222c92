/- A part of the proof: PmA. -/
import Derived.Orders
import Derived.WalkKit
import Derived.WalkSpells
import Derived.Deep.AppendSrc
import Derived.Laws.MakeOwn
set_option linter.all false
namespace Go.Proofs.YtaeaffgjdcigoaaGreat
open Go
theorem oM {p:Prop}(h:p:=by omega):p:=h
def yP:=@Bool.and_eq_true
def Va:=@Bool.or_eq_true
def wJ:=@List.mem_cons_of_mem
def mF:=@Option.some.injEq
def wI:=@List.mem_cons_self
def Vw:=@Nat.add_zero
def rK:=@List.length_cons
def RJ:=@List.getD_cons_succ
def Ds:=@List.foldl_cons
def Vv:=@List.cons_append
def ZA:=@Nat.zero_mul
def kG:=@Nat.mul_le_mul_right
def yG:=@List.mem_cons
def kE:=@Nat.mod_eq_of_lt
def gE:=@List.getD_eq_getElem?_getD
def iH:=@List.getElem?_append_right
def vL:=@Nat.le_trans
def uY:=@Nat.lt_of_lt_of_le
def yD:=@Nat.le_refl
def jW:=@Nat.zero_add
def vK:=@Nat.mod_lt
def xA:=@Nat.zero_le
def JK:=@Option.map_some
def aE:=@List.mem_of_mem_take
def Uu:=@List.mem_of_mem_drop
def W7:=@Nat.sub_self
def JJ:=@List.getElem?_append_left
def jI:=@Nat.add_mul
def jH:=@List.map_cons
def Fm:=@Bool.or_eq_false_iff
def YF:=@Bool.not_eq_true'
def Zz:=@List.nodup_cons
def uX:=@List.mem_append
def kJ:=@List.mem_singleton
def gP:=@List.map_append
def W6:=@List.nodup_append
def yZ:=@List.mem_map
def tD:=@List.getElem?_eq_none
def Ut:=@List.mem_append_left
def Av:=@List.mem_append_right
def iG:=@Nat.add_assoc
def dH:=@List.getElem?_map
def pB:=@Option.map_eq_some_iff
def z3:=@List.mem_of_getElem?
def JI:=@Option.isSome_iff_exists
def Fl:=@Array.getD_eq_getD_getElem?
def JH:=@Array.getElem?_eq_getElem
def Po:=@List.length_replicate
def YE:=@Nat.add_comm
def gD:=@List.length_append
def bT:=@List.getElem?_take_of_lt
def kX:=@List.length_take
def bS:=@List.length_drop
def Zy:=@Nat.div_lt_iff_lt_mul
def JG:=@Nat.div_eq_of_lt
def kD:=@List.eq_nil_of_length_eq_zero
def kI:=@Nat.mul_comm
def Fk:=@List.size_toArray
def wZ:=@List.drop_zero
def Pn:=@Option.getD_some
def kV:=@Nat.lt_or_ge
def JF:=@List.nil_append
def jV:=@List.append_nil
def Zx:=@List.getElem?_cons_zero
def Zw:=@List.getElem?_cons_succ
def pA:=@List.all_eq_true
def gC:=@List.getElem?_eq_getElem
def Au:=@List.mem_range
def r9:=@Bool.false_or
def vE:=@List.drop_length
def wE:=@List.getElem?_eq_some_iff
def Li:=@List.drop_eq_getElem_cons
def yU:=@List.take_of_length_le
def r8:=@Bool.eq_iff_iff
def Us:=@Bool.true_or
def tC:=@List.take_add_one
def JE:=@List.take_append_drop
def Fj:=@List.append_assoc
def Zv:=@Int.toNat_natCast
def Zu:=@List.map_take
def JD:=@List.map_drop
def Zt:=@UInt32.toNat_inj
def dO:=@List.length_nil
def xP:=@Nat.lt_of_le_of_lt
def As:=@Int.fdiv_eq_ediv_of_nonneg
def W0:=@List.map_nil
def WZ:=@Nat.mod_add_div
def uS:=@Nat.pow_succ
def fN:=@Nat.mul_assoc
def qS:=@Nat.mul_add
def Ur:=@Nat.or_lt_two_pow
def Uq:=@Nat.mul_lt_mul''
def tB:=@Nat.pow_lt_pow_right
def bR:=@Nat.pow_add
def bQ:=@Nat.lt_trans
def WY:=@Nat.eq_zero_or_pos
def dN:=@Nat.pow_le_pow_right
def WX:=@Nat.two_pow_pos
def Lh:=@Nat.add_mul_div_left
def Pm:=@Nat.add_mul_mod_self_left
def eN:=@List.drop_of_length_le
def pK:=@Nat.le_of_lt
def eM:=@Nat.pow_mul
def wQ:=@Nat.mul_le_mul_left
def Yg:=@List.drop_drop
def tV:=@Nat.mul_one
def eK:=@Nat.mul_lt_mul_of_pos_right
def QZ:=@Nat.mul_succ
def pJ:=@Nat.pos_of_ne_zero
def yW:=@Bool.true_and
def HX:=@List.length_eq_zero_iff
def QY:=@Nat.gcd_dvd_right
def eJ:=@Nat.div_le_self
def eI:=@Int.natAbs_mul
def Yf:=@Int.natAbs_natCast
def W9:=@Nat.mul_ne_zero
def uG:=@Int.natCast_nonneg
def kS:=@Bool.false_and
def W8:=@Rat.divInt_ofNat
def cH:=@List.pairwise_cons
def kF:=@Option.some.inj
def y4:=@List.length_map
def eH:=@List.any_eq_true
def v9:=@List.take_length
def MK:=@Rat.mul_nonneg
def jD:=@Rat.div_def
def nI:=@Rat.le_of_lt
def HW:=@List.take_append_of_le_length
def Ye:=@Prod.mk.inj
def Ay:=@List.length_singleton
def MJ:=@List.ext_getElem?
def Yd:=@Nat.mul_pos
def QX:=@Bool.false_ne_true
def Ax:=@List.length_reverse
def HV:=@List.pairwise_iff_getElem
def QW:=@List.length_modify
def QV:=@Bool.and_eq_true_iff
def HU:=@Nat.lt_or_eq_of_le
def Aw:=@Nat.le_of_lt_succ
def nqb (m n:Nat):Bool:=m == n
def nle (m n:Nat):Bool:=(m-n) == 0
def nlt (m n:Nat):Bool:=(m+1-n) == 0
@[simp] theorem nqb_iff {m n:Nat}:(nqb m n=true)=(m=n):=by simp[nqb]
@[simp] theorem nle_iff {m n:Nat}:(nle m n=true)=(m<=n):=by simp[nle];omega
@[simp] theorem nlt_iff {m n:Nat}:(nlt m n=true)=(m<n):=by simp[nlt];omega
theorem y5 {m n:Nat}(h:nqb m n=true):m=n:=by simpa using h
theorem mW {m n:Nat}(h:nle m n=true):m<=n:=by simpa using h
theorem Qa {m n:Nat}(h:nlt m n=true):m<n:=by simpa using h
@[simp] theorem nqb_self (n:Nat):nqb n n=true:=by simp
inductive D where
 |int (k:IntKind) (n:Int)
 |bool (b:Bool)
 |str (s:ByteArray)
 |sl (els:List (List D))
 |any
inductive PV where
 |int (k:IntKind) (n:Unit->Int)
 |tt
 |ff
 |bool (b:Unit->Bool)
 |nbool (b:Unit->Bool)
 |str (s:Unit->ByteArray)
 |nil
 |sl (els:Unit->List (List D))
 |agg (cs:List PV)
 |tup (vs:List PV)
 |ptr (n off:Nat)
 |aptr (n s:Nat) (i:Unit->Nat) (off:Nat)
 |dptr (cs:List PV) (off:Nat)
 |osl (n s:Nat) (o len:Unit->Nat)
 |fn (f:FuncId) (caps:List PV)
 |nilf
 |nilp
 |mpv (n:Nat)
 |emp
 |any
instance:Inhabited PV:=⟨.any⟩
inductive Obj' where
 |box (cs:List PV)
 |arr (s:Nat) (els:Unit->List (List D))
 |log (s:Nat) (els:Unit->List (List D))
 |lent (s:Nat) (els:Unit->List (List D))
 |mat (s:Nat) (rows:Unit->List (List (List D))) (hs:List (PV×(Unit->Nat)))
 |mp (t:Nat) (ks:Unit->List Int)
structure PS where
 tmps:List (Nat×PV)
 objs:List (Nat×Obj')
inductive Ty where
 |sc (z:PV)
 |st (n:Nat) (fs:List (Nat×Nat×Bool)) (z:List PV)
 |sli (n b:Nat) (z:List PV)
 |arr (len n:Nat) (ag:Bool) (z:List PV)
 |no
def Ty.cells:Ty->Nat
 |.sc _=>1| .sli _ _ _=>1| .st n _ _=>n| .arr len n _ _=>len*n| .no=>0
def Ty.isA:Ty->Bool
 |.st _ _ _=>true| .arr _ _ _ _=>true| _=>false
def Ty.isNo:Ty->Bool
 |.no=>true| _=>false
def Ty.zero:Ty->List PV
 |.sc z=>[z]| .sli _ _ _=>[.nil]| .st _ _ z=>z| .arr _ _ _ z=>z| .no=>[]
def zE (l:List (Nat×PV)) (t:Nat):PV :=
 match l with
 |[]=>.any| (u,v)::r=>(match nqb u t with|true=>v|false=>zE r t)
def uA (l:List (Nat×PV)) (t:Nat) (x:PV):List (Nat×PV) :=
 match l with
 |[]=>[(t,x)]| (u,v)::r=>(match nqb u t with|true=>(t,x)::r|false=>(u,v)::uA r t x)
def yN (l:List (Nat×Obj')) (n:Nat):Option Obj' :=
 match l with
 |[]=>none| (u,v)::r=>(match nqb u n with|true=>some v|false=>yN r n)
def setO (l:List (Nat×Obj')) (n:Nat) (x:Obj'):List (Nat×Obj') :=
 match l with
 |[]=>[(n,x)]| (u,v)::r=>(match nqb u n with|true=>(n,x)::r|false=>(u,v)::setO r n x)
def v8 (l:List (Nat×Obj')) (n:Nat):List (Nat×Obj') :=
 match l with
 |[]=>[]| (u,v)::r=>(match nqb u n with|true=>v8 r n|false=>(u,v)::v8 r n)
def put (ps:PS) (d:Option Nat) (v:PV):PS :=
 match d with
 |none=>ps| some d=>⟨uA ps.tmps d v,ps.objs⟩
def wU:Value->PV
 |.int k n=>.int k (λ_=>n)| .bool true=>.tt| .bool false=>.ff| .string s=>.str (λ_=>s)| .slice none 0 0=>.nil| .nilFunc=>.nilf| .pointer none=>.nilp| _=>.any
def ev (τ:Nat->PV):Operand->PV
 |.tmp t=>τ t| .const v=>wU v| .func f=>.fn f []| .global _=>.any
def yS:PV->List PV
 |.agg cs=>cs| v=>[v]
def yT (f:PV->Bool):List PV->Bool
 |[]=>true| v::r=>f v&&yT f r
def w5 (f:PV->PV):List PV->List PV
 |[]=>[]| v::r=>f v::w5 f r
def rf0 (n:Nat):PV->Bool
 |.agg _=>false| .tup _=>false| .fn _ _=>false| .ptr m _=>!(nqb m n)| .aptr m _ _ _=>!(nqb m n)| .osl m _ _ _=>!(nqb m n)| .mpv m=>!(nqb m n)| _=>true
def rf1 (n:Nat):PV->Bool
 |.agg cs=>yT (rf0 n) cs| .tup cs=>yT (rf0 n) cs| .fn _ cs=>yT (rf0 n) cs| v=>rf0 n v
def xZ (n:Nat):PV->Bool
 |.agg cs=>yT (rf1 n) cs| .tup cs=>yT (rf1 n) cs| .fn _ cs=>yT (rf1 n) cs| v=>rf0 n v
def wN (n:Nat):List PV->Bool:=yT (xZ n)
def qO:PV->Bool
 |.int _ _=>true| .tt=>true| .ff=>true| .bool _=>true| .nbool _=>true| .str _=>true| .sl _=>true| .any=>true| _=>false
def iM:PV->Bool
 |.nil=>true| v=>qO v
def Zm:PV->Bool
 |.nil=>true| .any=>false| v=>qO v
def t9:PV->Bool
 |.agg _=>false| .tup _=>false| .any=>false| _=>true
def gY:PV->Bool
 |.agg _=>true| v=>t9 v
def nD:List (List PV)->Bool
 |[]=>true| v::r=>yT Zm v&&nD r
def WG:PV->PV
 |.nil=>.sl (λ_=>[])| v=>v
def toD:PV->D
 |.int k n=>.int k (n ())| .tt=>.bool true| .ff=>.bool false| .bool b=>.bool (b ())| .nbool b=>.bool (!(b ()))| .str s=>.str (s ())| .nil=>.sl []| .sl els=>.sl (els ())| _=>.any
def xT:List PV->List D
 |[]=>[]| v::r=>toD v::xT r
def zW:List (List PV)->List (List D)
 |[]=>[]| v::r=>xT v::zW r
def Vj:Obj'->Option (Nat×(Unit->List (List D)))
 |.arr s els=>some (s,els)| .log s els=>some (s,els)| .lent s els=>some (s,els)| .box _=>none| .mat _ _ _=>none| .mp _ _=>none
def fz0 (n:Nat) (o:Obj'):PV->PV
 |.agg _=>.any| .tup _=>.any| .fn _ _=>.any| .ptr m off=>(match nqb m n with|true=>(match o with|.box cs=>.dptr (w5 WG cs) off|_=>.any)|false=>.ptr m off)| .aptr m s i off=>(match nqb m n with|true=>.any|false=>.aptr m s i off)| .osl m s i len=>(match nqb m n with|true=>(match Vj o with|some (s',els)=>(match nqb s s' with|true=>.sl (λ_=>((els ()).drop (i ())).take (len ()))|false=>.any)|none=>.any)|false=>.osl m s i len)| .mpv m=>(match nqb m n with|true=>.any|false=>.mpv m)| v=>v
def fz1 (n:Nat) (o:Obj'):PV->PV
 |.agg cs=>.agg (w5 (fz0 n o) cs)| .tup cs=>.tup (w5 (fz0 n o) cs)| .fn f cs=>.fn f (w5 (fz0 n o) cs)| v=>fz0 n o v
def frz (n:Nat) (o:Obj'):PV->PV
 |.agg cs=>.agg (w5 (fz1 n o) cs)| .tup cs=>.tup (w5 (fz1 n o) cs)| .fn f cs=>.fn f (w5 (fz1 n o) cs)| v=>fz0 n o v
def sc0 (n:Nat):PV->PV
 |.agg _=>.any| .tup _=>.any| .fn _ _=>.any| .ptr m off=>(match nqb m n with|true=>.any|false=>.ptr m off)| .aptr m s i off=>(match nqb m n with|true=>.any|false=>.aptr m s i off)| .osl m s i len=>(match nqb m n with|true=>.any|false=>.osl m s i len)| .mpv m=>(match nqb m n with|true=>.any|false=>.mpv m)| v=>v
def sc1 (n:Nat):PV->PV
 |.agg cs=>.agg (w5 (sc0 n) cs)| .tup cs=>.tup (w5 (sc0 n) cs)| .fn f cs=>.fn f (w5 (sc0 n) cs)| v=>sc0 n v
def scr (n:Nat):PV->PV
 |.agg cs=>.agg (w5 (sc1 n) cs)| .tup cs=>.tup (w5 (sc1 n) cs)| .fn f cs=>.fn f (w5 (sc1 n) cs)| v=>sc0 n v
def vZ (f:PV->PV):List (Nat×PV)->List (Nat×PV)
 |[]=>[]| (t,v)::r=>(t,f v)::vZ f r
def s7 (f:PV->PV):List (PV×(Unit->Nat))->List (PV×(Unit->Nat))
 |[]=>[]| (v,k)::r=>(f v,k)::s7 f r
def xL (f:PV->PV):List (Nat×Obj')->List (Nat×Obj')
 |[]=>[]| (n,.box cs)::r=>(n,.box (w5 f cs))::xL f r| (n,.arr s els)::r=>(n,.arr s els)::xL f r| (n,.log s els)::r=>(n,.log s els)::xL f r| (n,.lent s els)::r=>(n,.lent s els)::xL f r| (n,.mat s rows hs)::r=>(n,.mat s rows (s7 f hs))::xL f r| (n,.mp t ks)::r=>(n,.mp t ks)::xL f r
def pU (n:Nat):List (Nat×PV)->Bool
 |[]=>true| (_,v)::r=>xZ n v&&pU n r
def sT (n:Nat):List (PV×(Unit->Nat))->Bool
 |[]=>true| (v,_)::r=>xZ n v&&sT n r
def xK (n:Nat):List (Nat×Obj')->Bool
 |[]=>nlt n 1000000| (m,.box cs)::r=>!(nqb m n)&&wN n cs&&xK n r| (m,.arr _ _)::r=>!(nqb m n)&&xK n r| (m,.log _ _)::r=>!(nqb m n)&&xK n r| (m,.lent _ _)::r=>!(nqb m n)&&xK n r| (m,.mat _ _ hs)::r=>!(nqb m n)&&sT n hs&&xK n r| (m,.mp _ _)::r=>!(nqb m n)&&xK n r
def yQ (n:Nat) (ps:PS):Bool:=pU n ps.tmps&&xK n ps.objs
def yH (n:Nat):List Nat->Bool
 |[]=>false| m::r=>nqb m n || yH n r
def nm0 (l:List Nat):PV->Bool
 |.agg _=>false| .tup _=>false| .fn _ _=>false| .ptr m _=>yH m l| .aptr m _ _ _=>yH m l| .osl m _ _ _=>yH m l| .mpv m=>yH m l| _=>true
def nm1 (l:List Nat):PV->Bool
 |.agg cs=>yT (nm0 l) cs| .tup cs=>yT (nm0 l) cs| .fn _ cs=>yT (nm0 l) cs| v=>nm0 l v
def nmIn (l:List Nat):PV->Bool
 |.agg cs=>yT (nm1 l) cs| .tup cs=>yT (nm1 l) cs| .fn _ cs=>yT (nm1 l) cs| v=>nm0 l v
def uW:List PV->Nat->List PV->List PV
 |c::cs,0,v::vs=>v::uW cs 0 vs| cs,0,[]=>cs| [],_,_=>[]| c::cs,n+1,vs=>c::uW cs n vs
structure Br (b:Unit->Bool) (A B:Unit->Prop):Prop where
 t:b ()=true->A ()
 f:b ()=false->B ()
structure InI64 (z:Unit->Int):Prop where
 lo:-9223372036854775808<=z ()
 hi:z ()<=9223372036854775807
structure Nn (b:Unit->Int):Prop where
 h:0<=b ()
structure Nz (b:Unit->Int):Prop where
 h:b ()≠0
structure Rng (k:Unit->Int) (len:Unit->Nat):Prop where
 lo:0<=k ()
 hi:k ()<(len ():Int)
structure IdxOk (n:Nat) (els:Unit->List (List D)) (k:Unit->Int) (K:List PV->Prop):Prop where
 h:0<=k ()/\∃ c:List PV,yT qO c=true/\c.length=n/\(els ())[(k ()).toNat]?=some (xT c)/\K c
structure ElOk (n:Nat) (els:Unit->List (List D)) (i:Unit->Nat) (K:List PV->Prop):Prop where
 h:∃ c:List PV,yT qO c=true/\c.length=n/\(els ())[i ()]?=some (xT c)/\K c
structure SlOk (l h:Unit->Int) (len:Unit->Nat):Prop where
 lo:0<=l ()
 mid:l ()<=h ()
 hi:h ()<=(len ():Int)
structure SlT (l h:Unit->Int) (A B:Prop):Prop where
 h:((l ()<h ()\/l ()=0)/\A)\/(l ()=h ()/\B)
structure Wid (n:Nat) (els:Unit->List (List D)):Prop where
 h:∀ e,e∈els ()->e.length=n
structure Room (n:Unit->Int) (b:Nat):Prop where
 lo:0<=n ()
 hi:n ()*(b:Int)<=70368744177664
structure MkOk (x y:Unit->Int):Prop where
 lo:0<=x ()
 hi:x ()<=y ()
@[irreducible] def nx (k:IntKind) (n:Int):Int:=k.wrap n
@[irreducible] def iquo (a b:Int):Int:=a.tdiv b
@[irreducible] def irem (a b:Int):Int:=a.tmod b
@[irreducible] def ishl (k:IntKind) (a b:Int):Int:=k.wrap (a*2^(min b.toNat k.bits))
@[irreducible] def ishr (k:IntKind) (a b:Int):Int:=a.fdiv (2^(min b.toNat k.bits))
@[irreducible] def iand (k:IntKind) (a b:Int):Int:=k.wrap (BitVec.ofInt k.bits a &&& BitVec.ofInt k.bits b).toNat
@[irreducible] def ior (k:IntKind) (a b:Int):Int:=k.wrap (BitVec.ofInt k.bits a ||| BitVec.ofInt k.bits b).toNat
@[irreducible] def imax (a b:Int):Int:=if a<b then b else a
@[irreducible] def imin (a b:Int):Int:=if b<a then b else a
def brV (v:PV) (A B:Unit->Prop):Prop :=
 match v with
 |.tt=>A ()| .ff=>B ()| .bool b=>Br b A B| .nbool b=>Br b B A| _=>False
def Gg (k k':IntKind):Bool:=decide (k=k')
def arK (k:IntKind) (z:Unit->Int) (K:PV->Prop):Prop :=
 match k with
 |.i64=>InI64 z/\K (.int .i64 z)| k=>K (.int k (λ_=>nx k (z ())))
def F0 (op:BinOp) (k:IntKind) (a:Unit->Int) (k':IntKind) (b:Unit->Int) (K:PV->Prop):Prop :=
 match op with
 |.shl=>Nn b/\K (.int k (λ_=>ishl k (a ()) (b ())))| .shr=>Nn b/\K (.int k (λ_=>ishr k (a ()) (b ())))
 |op=>(match Gg k k' with
  |true=>(match op with
   |.add=>arK k (λ_=>a ()+b ()) K| .sub=>arK k (λ_=>a ()-b ()) K| .mul=>arK k (λ_=>a ()*b ()) K| .quo=>Nz b/\K (.int k (λ_=>nx k (iquo (a ()) (b ()))))| .rem=>Nz b/\K (.int k (λ_=>irem (a ()) (b ())))| .and=>K (.int k (λ_=>iand k (a ()) (b ())))| .or=>K (.int k (λ_=>ior k (a ()) (b ())))| .eql=>K (.bool (λ_=>decide (a ()=b ())))| .neq=>K (.nbool (λ_=>decide (a ()=b ())))| .lss=>K (.bool (λ_=>decide (a ()<b ())))| .leq=>K (.bool (λ_=>decide (a ()<=b ())))| .gtr=>K (.bool (λ_=>decide (b ()<a ())))| .geq=>K (.bool (λ_=>decide (b ()<=a ())))| _=>False)
  |false=>False)
def Ad:PV->Option (Unit->Bool)
 |.tt=>some (λ_=>true)| .ff=>some (λ_=>false)| .bool b=>some b| _=>none
inductive Fld where
 |i (n:Unit->Int)
 |b (n:Unit->Bool)
def Fld.v:Fld->Value
 |.i n=>.int .i64 (n ())| .b n=>.bool (n ())
def By:PV->Option Fld
 |.int .i64 n=>some (.i n)
 |v=>match Ad v with
  |some b=>some (.b b)| none=>none
def Z1:List PV->Option (List Fld)
 |[]=>some []
 |v::r=>match By v,Z1 r with
  |some x,some l=>some (x::l)| _,_=>none
def Zh:List Fld->List Value
 |[]=>[]| x::r=>x.v::Zh r
def rdK (ty:Ty) (cs:List PV) (off:Nat) (K:PV->Prop):Prop :=
 (match ty.isNo with|true=>False|false=>(match nle (off+ty.cells) cs.length with|true=>K ((match ty.isA with|true=>.agg ((cs.drop off).take ty.cells)|false=>cs.getD off .any))|false=>False))
def Wv (fs:List (Nat×Nat×Bool)):List (Nat×PV)->List PV->Option (List PV)
 |[],z=>some z
 |(i,v)::r,z=>match fs[i]? with
  |some (off,sz,_)=>(match nqb (yS v).length sz&&nle (off+sz) z.length&&gY v with|true=>Wv fs r (uW z off (yS v))|false=>none)| none=>none
def Uj (n:Nat):List (Nat×PV)->List PV->Option (List PV)
 |[],z=>some z| (i,v)::r,z=>(match nqb (yS v).length n&&nle (i*n+n) z.length&&gY v with|true=>Uj n r (uW z (i*n) (yS v))|false=>none)
def rW (n:Nat):List (Nat×PV)->List (List PV)->Option (List (List PV))
 |[],z=>some z| (i,v)::r,z=>(match nqb (yS v).length n&&nlt i z.length&&gY v with|true=>rW n r (z.set i (yS v))|false=>none)
def pT (z:List PV):Nat->List (List PV)
 |0=>[]| n+1=>z::pT z n
def Sf:List (List PV)->PV
 |[]=>.emp| x::r=>.sl (λ_=>zW (x::r))
def vO (e:Operand->PV):List (Nat×Operand)->List (Nat×PV)
 |[]=>[]| (i,o)::r=>(i,e o)::vO e r
def evs (e:Operand->PV):List Operand->List PV
 |[]=>[]| o::r=>e o::evs e r
def T6 (t:Ty) (v:PV) (K:PV->Prop):Prop :=
 match t with
 |.sli _ _ _=>(match v with
  |.sl els=>K (.int .i64 (λ_=>((els ()).length:Nat)))| .osl _ _ _ l=>K (.int .i64 (λ_=>(l ():Nat)))| .nil=>K (.int .i64 (λ_=>0))| .emp=>K (.int .i64 (λ_=>0))| _=>False)
 |_=>False
def iT (e:Operand->PV) (d:Unit->Int):Option Operand->Option (Unit->Int)
 |none=>some d
 |some o=>match e o with
  |.int _ n=>some n| _=>none
def gG (P:Program) (t:TypeId):Bool :=
 match P.underlying t with
 |some (.struct _)=>true| some (.array _ _)=>true| _=>false
def Ft (P:Program) (i:TypeInfo) (fs:Array Field):Ty :=
 match i.zero with
 |some (.agg zs)=>if (∀ f,f∈fs.toList->0<P.cellsOf f.type)/\zs.size=i.size/\(∀ f,f∈fs.toList->(P.underlying f.type).isSome=true) then .st i.size (fs.toList.map λf=>(f.offset,P.cellsOf f.type,gG P f.type)) (zs.toList.map wU) else .no| _=>.no
def AK (P:Program) (i:TypeInfo) (e:TypeId):Ty :=
 if i.size≠1 then .no else
 match i.zero,P.info? e with
 |some (.slice none 0 0),some j=>match j.zero with
  |some z=>if z.cells.size=j.size/\0<j.size/\0<j.bytes then .sli j.size j.bytes (z.cells.toList.map wU) else .no| none=>.no
 |_,_=>.no
def A9 (P:Program) (i:TypeInfo) (len:Nat) (e:TypeId):Ty :=
 match i.zero with
 |some (.agg zs)=>if zs.size=i.size/\i.size=len*P.cellsOf e/\1<len/\0<P.cellsOf e/\(P.underlying e).isSome=true then .arr len (P.cellsOf e) (gG P e) (zs.toList.map wU) else .no| _=>.no
def Fu (i:TypeInfo) (d:TypeDesc):Ty :=
 match i.zero with
 |some zv=>if i.size=1 then (match d,zv with
  |.int k,.int k' n=>if k=k' then .sc (.int k (λ_=>n)) else .no| .bool,.bool false=>.sc .ff| .func _ _ _,.nilFunc=>.sc .nilf| .pointer _,.pointer none=>.sc .nilp| .map _ _,.map none=>.sc .any| .string,.string s=>.sc (.str (λ_=>s))| _,_=>.no) else .no
 |none=>.no
def vJ (P:Program) (t:TypeId):Ty :=
 match P.info? t,P.underlying t with
 |some i,some (.struct fs)=>Ft P i fs| some i,some (.slice e)=>AK P i e| some i,some (.array len e)=>A9 P i len e| some i,some d=>Fu i d| _,_=>.no
end Go.Proofs.YtaeaffgjdcigoaaGreat
