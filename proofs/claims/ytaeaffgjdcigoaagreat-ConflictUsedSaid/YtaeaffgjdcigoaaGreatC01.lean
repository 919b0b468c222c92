/- A part of the proof: PmA. -/
import Derived.Orders
import Derived.WalkKit
import Derived.WalkSpells
import Derived.Deep.AppendSrc
import Derived.Laws.MakeOwn
set_option linter.all false
namespace Go.Proofs.YtaeaffgjdcigoaaGreat
open Go
theorem oM {p:Prop}(h:p:=by omega):p:=h
def yT:=@Bool.and_eq_true
def alT1:=@Bool.or_eq_true
def xN:=@List.mem_cons_of_mem
def p7:=@Option.some.injEq
def xM:=@List.mem_cons_self
def alT5:=@Nat.add_zero
def kI:=@List.length_cons
def alT7:=@List.getD_cons_succ
def alT8:=@List.foldl_cons
def alT9:=@List.cons_append
def tJ:=@Nat.zero_mul
def qV:=@Nat.mul_le_mul_right
def yI:=@List.mem_cons
def qU:=@Nat.mod_eq_of_lt
def uJ:=@List.getD_eq_getElem?_getD
def tI:=@List.getElem?_append_right
def vD:=@Nat.le_trans
def uI:=@Nat.lt_of_lt_of_le
def zZ:=@Nat.le_refl
def kZ:=@Nat.zero_add
def uH:=@Nat.mod_lt
def xD:=@Nat.zero_le
def mZ:=@List.mem_of_mem_take
def lX:=@Nat.sub_self
def zMP:=@List.getElem?_append_left
def gF:=@Nat.add_mul
def kA:=@List.map_cons
def zHF:=@Bool.not_eq_true'
def zC3:=@List.nodup_cons
def vX:=@List.mem_append
def vL:=@List.mem_singleton
def gE:=@List.map_append
def lW:=@List.nodup_append
def y8:=@List.mem_map
def bE:=@List.getElem?_eq_none
def mY:=@List.mem_append_left
def mX:=@List.mem_append_right
def lV:=@Nat.add_assoc
def bR:=@List.getElem?_map
def zHE:=@Option.map_eq_some_iff
def yA:=@List.mem_of_getElem?
def zQP:=@Option.isSome_iff_exists
def zQO:=@Array.getD_eq_getD_getElem?
def pD:=@Nat.mul_one
def zMO:=@Array.getElem?_eq_getElem
def zE5:=@Nat.add_comm
def qZ:=@List.length_append
def jY:=@List.getElem?_take_of_lt
def zC2:=@Nat.div_lt_iff_lt_mul
def zMN:=@Nat.div_eq_of_lt
def kR:=@List.eq_nil_of_length_eq_zero
def qY:=@Nat.mul_comm
def zQN:=@Array.size_append
def zMM:=@List.size_toArray
def uQ:=@Nat.lt_or_ge
def jX:=@Nat.mul_assoc
def zML:=@List.nil_append
def uU:=@List.append_nil
def zMK:=@Bool.and_true
def lU:=@List.getElem?_cons_zero
def tH:=@List.getElem?_cons_succ
def zMJ:=@List.all_cons
def zQM:=@List.take_succ_cons
def tG:=@List.all_eq_true
def qI:=@List.getElem?_eq_getElem
def zC1:=@List.mem_range
def sI:=@Bool.false_or
def w4:=@List.drop_length
def wH:=@List.getElem?_eq_some_iff
def yAY:=@List.drop_eq_getElem_cons
def yS:=@List.take_of_length_le
def bQ:=@Bool.eq_iff_iff
def zLF:=@Bool.true_or
def zQL:=@List.take_append_drop
def tF:=@List.take_add_one
def zMI:=@List.append_assoc
def mW:=@Int.toNat_natCast
def zHD:=@List.map_take
def zQK:=@List.map_drop
def zC0:=@UInt32.toNat_inj
def sZ:=@List.length_nil
def xP:=@Nat.lt_of_le_of_lt
def zUC:=@Int.fdiv_eq_ediv_of_nonneg
def zLE:=@List.map_nil
def zHC:=@Nat.mod_add_div
def uG:=@Nat.pow_succ
def qH:=@Nat.mul_add
def zLD:=@Nat.or_lt_two_pow
def zLC:=@Nat.mul_lt_mul''
def pC:=@Nat.pow_lt_pow_right
def bD:=@Nat.pow_add
def bC:=@Nat.lt_trans
def zHB:=@Nat.eq_zero_or_pos
def dE:=@Nat.pow_le_pow_right
def zLB:=@Nat.pow_zero
def zHA:=@Nat.two_pow_pos
def yAX:=@Nat.add_mul_div_left
def zXA:=@Nat.add_mul_mod_self_left
def zG9:=@List.drop_of_length_le
def zCZ:=@Nat.le_of_lt
def i4:=@Nat.pow_mul
def wG:=@Nat.mul_le_mul_left
def wC:=@List.drop_zero
def i3:=@List.drop_drop
def iZ:=@Nat.mul_lt_mul_of_pos_right
def j5:=@List.length_take
def m8:=@List.length_drop
def rE:=@Nat.pos_of_ne_zero
def yU:=@Bool.true_and
def zNH:=@List.length_eq_zero_iff
def zJH:=@Nat.gcd_dvd_right
def iY:=@Nat.div_le_self
def p9:=@Int.natAbs_mul
def iX:=@Int.natAbs_natCast
def zFO:=@Nat.mul_ne_zero
def p8:=@Int.natCast_nonneg
def kJ:=@Bool.false_and
def zFN:=@Rat.divInt_ofNat
def zB9:=@List.pairwise_cons
def vN:=@Option.some.inj
def zTS:=@List.foldl_append
def v9:=@List.take_length
def xA:=@List.length_map
def zJG:=@List.set_append_right
def zJF:=@List.length_singleton
def f9:=@Rat.div_def
def zB8:=@Rat.one_mul
def iW:=@Prod.mk.inj
def zB7:=@List.filter_cons_of_neg
def zB6:=@List.filter_cons_of_pos
def iV:=@Rat.add_zero
def zJE:=@Bool.and_eq_false_iff
def m0:=@Rat.intCast_mul
def zB5:=@Nat.mul_pos
def zJD:=@Bool.false_ne_true
def nqb (m n:Nat):Bool:=m == n
def nle (m n:Nat):Bool:=(m-n) == 0
def nlt (m n:Nat):Bool:=(m+1-n) == 0
@[simp] theorem nqb_iff {m n:Nat}:(nqb m n=true)=(m=n):=by simp[nqb]
@[simp] theorem nle_iff {m n:Nat}:(nle m n=true)=(m<=n):=by simp[nle];omega
@[simp] theorem nlt_iff {m n:Nat}:(nlt m n=true)=(m<n):=by simp[nlt];omega
theorem yY {m n:Nat}(h:nqb m n=true):m=n:=by simpa using h
theorem mF {m n:Nat}(h:nle m n=true):m<=n:=by simpa using h
theorem mE {m n:Nat}(h:nlt m n=true):m<n:=by simpa using h
@[simp] theorem nqb_self (n:Nat):nqb n n=true:=by simp
inductive D where
 |int (k:IntKind) (n:Int)
 |bool (b:Bool)
 |str (s:ByteArray)
 |sl (els:List (List D))
 |any
inductive PV where
 |int (k:IntKind) (n:Unit->Int)
 |tt
 |ff
 |bool (b:Unit->Bool)
 |nbool (b:Unit->Bool)
 |str (s:Unit->ByteArray)
 |nil
 |sl (els:Unit->List (List D))
 |agg (cs:List PV)
 |tup (vs:List PV)
 |ptr (n off:Nat)
 |aptr (n s:Nat) (i:Unit->Nat) (off:Nat)
 |dptr (cs:List PV) (off:Nat)
 |osl (n s:Nat) (o len:Unit->Nat)
 |fn (f:FuncId) (caps:List PV)
 |nilf
 |nilp
 |mpv (n:Nat)
 |emp
 |any
instance:Inhabited PV:=⟨.any⟩
inductive Obj' where
 |box (cs:List PV)
 |arr (s:Nat) (els:Unit->List (List D))
 |log (s:Nat) (els:Unit->List (List D))
 |lent (s:Nat) (els:Unit->List (List D))
 |mat (s:Nat) (rows:Unit->List (List (List D))) (hs:List (PV×(Unit->Nat)))
 |mp (t:Nat) (ks:Unit->List Int)
structure PS where
 tmps:List (Nat×PV)
 objs:List (Nat×Obj')
inductive Ty where
 |sc (z:PV)
 |st (n:Nat) (fs:List (Nat×Nat×Bool)) (z:List PV)
 |sli (n b:Nat) (z:List PV)
 |arr (len n:Nat) (ag:Bool) (z:List PV)
 |no
def Ty.cells:Ty->Nat
 |.sc _=>1| .sli _ _ _=>1| .st n _ _=>n| .arr len n _ _=>len*n| .no=>0
def Ty.isA:Ty->Bool
 |.st _ _ _=>true| .arr _ _ _ _=>true| _=>false
def Ty.isNo:Ty->Bool
 |.no=>true| _=>false
def Ty.zero:Ty->List PV
 |.sc z=>[z]| .sli _ _ _=>[.nil]| .st _ _ z=>z| .arr _ _ _ z=>z| .no=>[]
def zB (l:List (Nat×PV)) (t:Nat):PV :=
 match l with
 |[]=>.any| (u,v)::r=>(match nqb u t with|true=>v|false=>zB r t)
def v7 (l:List (Nat×PV)) (t:Nat) (x:PV):List (Nat×PV) :=
 match l with
 |[]=>[(t,x)]| (u,v)::r=>(match nqb u t with|true=>(t,x)::r|false=>(u,v)::v7 r t x)
def yG (l:List (Nat×Obj')) (n:Nat):Option Obj' :=
 match l with
 |[]=>none| (u,v)::r=>(match nqb u n with|true=>some v|false=>yG r n)
def setO (l:List (Nat×Obj')) (n:Nat) (x:Obj'):List (Nat×Obj') :=
 match l with
 |[]=>[(n,x)]| (u,v)::r=>(match nqb u n with|true=>(n,x)::r|false=>(u,v)::setO r n x)
def xO (l:List (Nat×Obj')) (n:Nat):List (Nat×Obj') :=
 match l with
 |[]=>[]| (u,v)::r=>(match nqb u n with|true=>xO r n|false=>(u,v)::xO r n)
def put (ps:PS) (d:Option Nat) (v:PV):PS :=
 match d with
 |none=>ps| some d=>⟨v7 ps.tmps d v,ps.objs⟩
def wN:Value->PV
 |.int k n=>.int k (fun _=>n)| .bool true=>.tt| .bool false=>.ff| .string s=>.str (fun _=>s)| .slice none 0 0=>.nil| .nilFunc=>.nilf| .pointer none=>.nilp| _=>.any
def ev (τ:Nat->PV):Operand->PV
 |.tmp t=>τ t| .const v=>wN v| .func f=>.fn f []| .global _=>.any
def yM:PV->List PV
 |.agg cs=>cs| v=>[v]
def yR (f:PV->Bool):List PV->Bool
 |[]=>true| v::r=>f v&&yR f r
def vG (f:PV->PV):List PV->List PV
 |[]=>[]| v::r=>f v::vG f r
def rf0 (n:Nat):PV->Bool
 |.agg _=>false| .tup _=>false| .fn _ _=>false| .ptr m _=>!(nqb m n)| .aptr m _ _ _=>!(nqb m n)| .osl m _ _ _=>!(nqb m n)| .mpv m=>!(nqb m n)| _=>true
def rf1 (n:Nat):PV->Bool
 |.agg cs=>yR (rf0 n) cs| .tup cs=>yR (rf0 n) cs| .fn _ cs=>yR (rf0 n) cs| v=>rf0 n v
def xS (n:Nat):PV->Bool
 |.agg cs=>yR (rf1 n) cs| .tup cs=>yR (rf1 n) cs| .fn _ cs=>yR (rf1 n) cs| v=>rf0 n v
def wD (n:Nat):List PV->Bool:=yR (xS n)
def qW:PV->Bool
 |.int _ _=>true| .tt=>true| .ff=>true| .bool _=>true| .nbool _=>true| .str _=>true| .sl _=>true| .any=>true| _=>false
def iA:PV->Bool
 |.nil=>true| v=>qW v
def o5:PV->Bool
 |.nil=>true| .any=>false| v=>qW v
def pW:PV->Bool
 |.agg _=>false| .tup _=>false| .any=>false| _=>true
def gO:PV->Bool
 |.agg _=>true| v=>pW v
def mQ:List (List PV)->Bool
 |[]=>true| v::r=>yR o5 v&&mQ r
def zG6:PV->PV
 |.nil=>.sl (fun _=>[])| v=>v
def toD:PV->D
 |.int k n=>.int k (n ())| .tt=>.bool true| .ff=>.bool false| .bool b=>.bool (b ())| .nbool b=>.bool (!(b ()))| .str s=>.str (s ())| .nil=>.sl []| .sl els=>.sl (els ())| _=>.any
def wB:List PV->List D
 |[]=>[]| v::r=>toD v::wB r
def zS:List (List PV)->List (List D)
 |[]=>[]| v::r=>wB v::zS r
def rowO:Obj'->Option (Nat×(Unit->List (List D)))
 |.arr s els=>some (s,els)| .log s els=>some (s,els)| .lent s els=>some (s,els)| .box _=>none| .mat _ _ _=>none| .mp _ _=>none
def fz0 (n:Nat) (o:Obj'):PV->PV
 |.agg _=>.any| .tup _=>.any| .fn _ _=>.any| .ptr m off=>(match nqb m n with|true=>(match o with|.box cs=>.dptr (vG zG6 cs) off|_=>.any)|false=>.ptr m off)| .aptr m s i off=>(match nqb m n with|true=>.any|false=>.aptr m s i off)| .osl m s i len=>(match nqb m n with|true=>(match rowO o with|some (s',els)=>(match nqb s s' with|true=>.sl (fun _=>((els ()).drop (i ())).take (len ()))|false=>.any)|none=>.any)|false=>.osl m s i len)| .mpv m=>(match nqb m n with|true=>.any|false=>.mpv m)| v=>v
def fz1 (n:Nat) (o:Obj'):PV->PV
 |.agg cs=>.agg (vG (fz0 n o) cs)| .tup cs=>.tup (vG (fz0 n o) cs)| .fn f cs=>.fn f (vG (fz0 n o) cs)| v=>fz0 n o v
def frz (n:Nat) (o:Obj'):PV->PV
 |.agg cs=>.agg (vG (fz1 n o) cs)| .tup cs=>.tup (vG (fz1 n o) cs)| .fn f cs=>.fn f (vG (fz1 n o) cs)| v=>fz0 n o v
def sc0 (n:Nat):PV->PV
 |.agg _=>.any| .tup _=>.any| .fn _ _=>.any| .ptr m off=>(match nqb m n with|true=>.any|false=>.ptr m off)| .aptr m s i off=>(match nqb m n with|true=>.any|false=>.aptr m s i off)| .osl m s i len=>(match nqb m n with|true=>.any|false=>.osl m s i len)| .mpv m=>(match nqb m n with|true=>.any|false=>.mpv m)| v=>v
def sc1 (n:Nat):PV->PV
 |.agg cs=>.agg (vG (sc0 n) cs)| .tup cs=>.tup (vG (sc0 n) cs)| .fn f cs=>.fn f (vG (sc0 n) cs)| v=>sc0 n v
def scr (n:Nat):PV->PV
 |.agg cs=>.agg (vG (sc1 n) cs)| .tup cs=>.tup (vG (sc1 n) cs)| .fn f cs=>.fn f (vG (sc1 n) cs)| v=>sc0 n v
def wV (f:PV->PV):List (Nat×PV)->List (Nat×PV)
 |[]=>[]| (t,v)::r=>(t,f v)::wV f r
def j7 (f:PV->PV):List (PV×(Unit->Nat))->List (PV×(Unit->Nat))
 |[]=>[]| (v,k)::r=>(f v,k)::j7 f r
def y4 (f:PV->PV):List (Nat×Obj')->List (Nat×Obj')
 |[]=>[]| (n,.box cs)::r=>(n,.box (vG f cs))::y4 f r| (n,.arr s els)::r=>(n,.arr s els)::y4 f r| (n,.log s els)::r=>(n,.log s els)::y4 f r| (n,.lent s els)::r=>(n,.lent s els)::y4 f r| (n,.mat s rows hs)::r=>(n,.mat s rows (j7 f hs))::y4 f r| (n,.mp t ks)::r=>(n,.mp t ks)::y4 f r
def rL (n:Nat):List (Nat×PV)->Bool
 |[]=>true| (_,v)::r=>xS n v&&rL n r
def aT (n:Nat):List (PV×(Unit->Nat))->Bool
 |[]=>true| (v,_)::r=>xS n v&&aT n r
def xH (n:Nat):List (Nat×Obj')->Bool
 |[]=>nlt n 1000000| (m,.box cs)::r=>!(nqb m n)&&wD n cs&&xH n r| (m,.arr _ _)::r=>!(nqb m n)&&xH n r| (m,.log _ _)::r=>!(nqb m n)&&xH n r| (m,.lent _ _)::r=>!(nqb m n)&&xH n r| (m,.mat _ _ hs)::r=>!(nqb m n)&&aT n hs&&xH n r| (m,.mp _ _)::r=>!(nqb m n)&&xH n r
def yH (n:Nat) (ps:PS):Bool:=rL n ps.tmps&&xH n ps.objs
def yE (n:Nat):List Nat->Bool
 |[]=>false| m::r=>nqb m n || yE n r
def nm0 (l:List Nat):PV->Bool
 |.agg _=>false| .tup _=>false| .fn _ _=>false| .ptr m _=>yE m l| .aptr m _ _ _=>yE m l| .osl m _ _ _=>yE m l| .mpv m=>yE m l| _=>true
def nm1 (l:List Nat):PV->Bool
 |.agg cs=>yR (nm0 l) cs| .tup cs=>yR (nm0 l) cs| .fn _ cs=>yR (nm0 l) cs| v=>nm0 l v
def nmIn (l:List Nat):PV->Bool
 |.agg cs=>yR (nm1 l) cs| .tup cs=>yR (nm1 l) cs| .fn _ cs=>yR (nm1 l) cs| v=>nm0 l v
def uT:List PV->Nat->List PV->List PV
 |c::cs,0,v::vs=>v::uT cs 0 vs| cs,0,[]=>cs| [],_,_=>[]| c::cs,n+1,vs=>c::uT cs n vs
structure Br (b:Unit->Bool) (A B:Unit->Prop):Prop where
 t:b ()=true->A ()
 f:b ()=false->B ()
structure InI64 (z:Unit->Int):Prop where
 lo:-9223372036854775808<=z ()
 hi:z ()<=9223372036854775807
structure Nn (b:Unit->Int):Prop where
 h:0<=b ()
structure Nz (b:Unit->Int):Prop where
 h:b ()≠0
structure Rng (k:Unit->Int) (len:Unit->Nat):Prop where
 lo:0<=k ()
 hi:k ()<(len ():Int)
structure IdxOk (n:Nat) (els:Unit->List (List D)) (k:Unit->Int) (K:List PV->Prop):Prop where
 h:0<=k ()/\∃ c:List PV,yR qW c=true/\c.length=n/\(els ())[(k ()).toNat]?=some (wB c)/\K c
structure ElOk (n:Nat) (els:Unit->List (List D)) (i:Unit->Nat) (K:List PV->Prop):Prop where
 h:∃ c:List PV,yR qW c=true/\c.length=n/\(els ())[i ()]?=some (wB c)/\K c
structure SlOk (l h:Unit->Int) (len:Unit->Nat):Prop where
 lo:0<=l ()
 mid:l ()<=h ()
 hi:h ()<=(len ():Int)
structure SlNe (l h:Unit->Int):Prop where
 lt:l ()<h ()
structure Wid (n:Nat) (els:Unit->List (List D)):Prop where
 h:∀ e,e∈els ()->e.length=n
structure Room (n:Unit->Int) (b:Nat):Prop where
 lo:0<=n ()
 hi:n ()*(b:Int)<=70368744177664
structure MkOk (x y:Unit->Int):Prop where
 lo:0<=x ()
 hi:x ()<=y ()
@[irreducible] def nx (k:IntKind) (n:Int):Int:=k.wrap n
@[irreducible] def iquo (a b:Int):Int:=a.tdiv b
@[irreducible] def irem (a b:Int):Int:=a.tmod b
@[irreducible] def ishl (k:IntKind) (a b:Int):Int:=k.wrap (a*2^(min b.toNat k.bits))
@[irreducible] def ishr (k:IntKind) (a b:Int):Int:=a.fdiv (2^(min b.toNat k.bits))
@[irreducible] def iand (k:IntKind) (a b:Int):Int:=k.wrap (BitVec.ofInt k.bits a &&& BitVec.ofInt k.bits b).toNat
@[irreducible] def ior (k:IntKind) (a b:Int):Int:=k.wrap (BitVec.ofInt k.bits a ||| BitVec.ofInt k.bits b).toNat
@[irreducible] def imax (a b:Int):Int:=if a<b then b else a
@[irreducible] def imin (a b:Int):Int:=if b<a then b else a
def brV (v:PV) (A B:Unit->Prop):Prop :=
 match v with
 |.tt=>A ()| .ff=>B ()| .bool b=>Br b A B| .nbool b=>Br b B A| _=>False
def zQE (k k':IntKind):Bool:=decide (k=k')
def arK (k:IntKind) (z:Unit->Int) (K:PV->Prop):Prop :=
 match k with
 |.i64=>InI64 z/\K (.int .i64 z)| k=>K (.int k (fun _=>nx k (z ())))
def intK (op:BinOp) (k:IntKind) (a:Unit->Int) (k':IntKind) (b:Unit->Int) (K:PV->Prop):Prop :=
 match op with
 |.shl=>Nn b/\K (.int k (fun _=>ishl k (a ()) (b ())))| .shr=>Nn b/\K (.int k (fun _=>ishr k (a ()) (b ())))
 |op=>(match zQE k k' with
  |true=>(match op with
   |.add=>arK k (fun _=>a ()+b ()) K| .sub=>arK k (fun _=>a ()-b ()) K| .mul=>arK k (fun _=>a ()*b ()) K| .quo=>Nz b/\K (.int k (fun _=>nx k (iquo (a ()) (b ()))))| .rem=>Nz b/\K (.int k (fun _=>irem (a ()) (b ())))| .and=>K (.int k (fun _=>iand k (a ()) (b ())))| .or=>K (.int k (fun _=>ior k (a ()) (b ())))| .eql=>K (.bool (fun _=>decide (a ()=b ())))| .neq=>K (.nbool (fun _=>decide (a ()=b ())))| .lss=>K (.bool (fun _=>decide (a ()<b ())))| .leq=>K (.bool (fun _=>decide (a ()<=b ())))| .gtr=>K (.bool (fun _=>decide (b ()<a ())))| .geq=>K (.bool (fun _=>decide (b ()<=a ())))| _=>False)
  |false=>False)
def bval:PV->Option (Unit->Bool)
 |.tt=>some (fun _=>true)| .ff=>some (fun _=>false)| .bool b=>some b| _=>none
inductive Fld where
 |i (n:Unit->Int)
 |b (n:Unit->Bool)
def Fld.v:Fld->Value
 |.i n=>.int .i64 (n ())| .b n=>.bool (n ())
def zUA:PV->Option Fld
 |.int .i64 n=>some (.i n)
 |v=>match bval v with
  |some b=>some (.b b)| none=>none
def zBZ:List PV->Option (List Fld)
 |[]=>some []
 |v::r=>match zUA v,zBZ r with
  |some x,some l=>some (x::l)| _,_=>none
def oZ:List Fld->List Value
 |[]=>[]| x::r=>x.v::oZ r
def rdK (ty:Ty) (cs:List PV) (off:Nat) (K:PV->Prop):Prop :=
 (match ty.isNo with|true=>False|false=>(match nle (off+ty.cells) cs.length with|true=>K ((match ty.isA with|true=>.agg ((cs.drop off).take ty.cells)|false=>cs.getD off .any))|false=>False))
def zK9 (fs:List (Nat×Nat×Bool)):List (Nat×PV)->List PV->Option (List PV)
 |[],z=>some z
 |(i,v)::r,z=>match fs[i]? with
  |some (off,sz,_)=>(match nqb (yM v).length sz&&nle (off+sz) z.length&&gO v with|true=>zK9 fs r (uT z off (yM v))|false=>none)| none=>none
def zLA (n:Nat):List (Nat×PV)->List PV->Option (List PV)
 |[],z=>some z| (i,v)::r,z=>(match nqb (yM v).length n&&nle (i*n+n) z.length&&gO v with|true=>zLA n r (uT z (i*n) (yM v))|false=>none)
def sB (n:Nat):List (Nat×PV)->List (List PV)->Option (List (List PV))
 |[],z=>some z| (i,v)::r,z=>(match nqb (yM v).length n&&nlt i z.length&&gO v with|true=>sB n r (z.set i (yM v))|false=>none)
def s5 (z:List PV):Nat->List (List PV)
 |0=>[]| n+1=>z::s5 z n
def slOf:List (List PV)->PV
 |[]=>.emp| x::r=>.sl (fun _=>zS (x::r))
def vZ (e:Operand->PV):List (Nat×Operand)->List (Nat×PV)
 |[]=>[]| (i,o)::r=>(i,e o)::vZ e r
def evs (e:Operand->PV):List Operand->List PV
 |[]=>[]| o::r=>e o::evs e r
def lenK (t:Ty) (v:PV) (K:PV->Prop):Prop :=
 match t with
 |.sli _ _ _=>(match v with
  |.sl els=>K (.int .i64 (fun _=>((els ()).length:Nat)))| .osl _ _ _ l=>K (.int .i64 (fun _=>(l ():Nat)))| .nil=>K (.int .i64 (fun _=>0))| .emp=>K (.int .i64 (fun _=>0))| _=>False)
 |_=>False
def iH (e:Operand->PV) (d:Unit->Int):Option Operand->Option (Unit->Int)
 |none=>some d
 |some o=>match e o with
  |.int _ n=>some n| _=>none
def j2 (P:Program) (t:TypeId):Bool :=
 match P.underlying t with
 |some (.struct _)=>true| some (.array _ _)=>true| _=>false
def tySt (P:Program) (i:TypeInfo) (fs:Array Field):Ty :=
 match i.zero with
 |some (.agg zs)=>if (∀ f,f∈fs.toList->0<P.cellsOf f.type)/\zs.size=i.size/\(∀ f,f∈fs.toList->(P.underlying f.type).isSome=true) then .st i.size (fs.toList.map fun f=>(f.offset,P.cellsOf f.type,j2 P f.type)) (zs.toList.map wN) else .no| _=>.no
def tySl (P:Program) (i:TypeInfo) (e:TypeId):Ty :=
 if i.size≠1 then .no else
 match i.zero,P.info? e with
 |some (.slice none 0 0),some j=>match j.zero with
  |some z=>if z.cells.size=j.size/\0<j.size/\0<j.bytes then .sli j.size j.bytes (z.cells.toList.map wN) else .no| none=>.no
 |_,_=>.no
def tyAr (P:Program) (i:TypeInfo) (len:Nat) (e:TypeId):Ty :=
 match i.zero with
 |some (.agg zs)=>if zs.size=i.size/\i.size=len*P.cellsOf e/\1<len/\0<P.cellsOf e/\(P.underlying e).isSome=true then .arr len (P.cellsOf e) (j2 P e) (zs.toList.map wN) else .no| _=>.no
def tySc (i:TypeInfo) (d:TypeDesc):Ty :=
 match i.zero with
 |some zv=>if i.size=1 then (match d,zv with
  |.int k,.int k' n=>if k=k' then .sc (.int k (fun _=>n)) else .no| .bool,.bool false=>.sc .ff| .func _ _ _,.nilFunc=>.sc .nilf| .pointer _,.pointer none=>.sc .nilp| .map _ _,.map none=>.sc .any| .string,.string s=>.sc (.str (fun _=>s))| _,_=>.no) else .no
 |none=>.no
def vF (P:Program) (t:TypeId):Ty :=
 match P.info? t,P.underlying t with
 |some i,some (.struct fs)=>tySt P i fs| some i,some (.slice e)=>tySl P i e| some i,some (.array len e)=>tyAr P i len e| some i,some d=>tySc i d| _,_=>.no
end Go.Proofs.YtaeaffgjdcigoaaGreat
