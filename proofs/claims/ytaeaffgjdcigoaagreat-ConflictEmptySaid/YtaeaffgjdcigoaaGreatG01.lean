/- A part of the proof: PmA. -/
import Derived.Orders
import Derived.WalkKit
import Derived.WalkSpells
import Derived.Deep.AppendSrc
import Derived.Laws.MakeOwn
set_option linter.all false
namespace Go.Proofs.YtaeaffgjdcigoaaGreat
open Go
theorem oM {p:Prop}(h:p:=by omega):p:=h
def yK:=@Bool.and_eq_true
def Kq:=@Bool.or_eq_true
def xQ:=@List.mem_cons_of_mem
def pE:=@Option.some.injEq
def xV:=@List.mem_cons_self
def VS:=@Nat.add_zero
def bK:=@List.length_cons
def PA:=@List.getD_cons_succ
def Kk:=@List.foldl_cons
def Yh:=@List.cons_append
def ZI:=@Nat.zero_mul
def jC:=@Nat.mul_le_mul_right
def yI:=@List.mem_cons
def qY:=@Nat.mod_eq_of_lt
def fK:=@List.getD_eq_getElem?_getD
def ZH:=@List.getElem?_append_right
def vR:=@Nat.le_trans
def uR:=@Nat.lt_of_lt_of_le
def yD:=@Nat.le_refl
def jQ:=@Nat.zero_add
def vZ:=@Nat.mod_lt
def yU:=@Nat.zero_le
def s7:=@List.mem_of_mem_take
def Vr:=@Nat.sub_self
def Hf:=@List.getElem?_append_left
def gI:=@Nat.add_mul
def jB:=@List.map_cons
def Dd:=@Bool.or_eq_false_iff
def Vq:=@Bool.not_eq_true'
def mI:=@List.nodup_cons
def uQ:=@List.mem_append
def kC:=@List.mem_singleton
def gH:=@List.map_append
def YL:=@List.nodup_append
def xA:=@List.mem_map
def tA:=@List.getElem?_eq_none
def UY:=@List.mem_append_left
def Dc:=@List.mem_append_right
def ZG:=@Nat.add_assoc
def uY:=@List.getElem?_map
def ZF:=@Option.map_eq_some_iff
def zX:=@List.mem_of_getElem?
def iT:=@Option.isSome_iff_exists
def Db:=@Array.getD_eq_getD_getElem?
def He:=@Array.getElem?_eq_getElem
def Da:=@List.length_replicate
def YK:=@Nat.add_comm
def bU:=@List.length_append
def rT:=@List.getElem?_take_of_lt
def ZE:=@Nat.div_lt_iff_lt_mul
def Hd:=@Nat.div_eq_of_lt
def j3:=@List.eq_nil_of_length_eq_zero
def qX:=@Nat.mul_comm
def F9:=@List.size_toArray
def YJ:=@Option.getD_some
def qW:=@Nat.lt_or_ge
def Hc:=@List.nil_append
def kN:=@List.append_nil
def Hb:=@Bool.and_true
def mH:=@List.getElem?_cons_zero
def p9:=@List.getElem?_cons_succ
def gG:=@List.all_eq_true
def j2:=@List.getElem?_eq_getElem
def Se:=@List.mem_range
def s6:=@Bool.false_or
def wD:=@List.drop_length
def xP:=@List.getElem?_eq_some_iff
def yW:=@List.take_of_length_le
def rS:=@Bool.eq_iff_iff
def Vp:=@Bool.true_or
def dI:=@List.take_add_one
def Sd:=@List.take_append_drop
def Ha:=@List.append_assoc
def mG:=@Int.toNat_natCast
def Vo:=@List.map_take
def F8:=@List.map_drop
def ZD:=@UInt32.toNat_inj
def iS:=@List.length_nil
def xF:=@Nat.lt_of_le_of_lt
def Sc:=@Int.fdiv_eq_ediv_of_nonneg
def Vn:=@List.map_nil
def Vm:=@Nat.mod_add_div
def uC:=@Nat.pow_succ
def gF:=@Nat.mul_assoc
def qO:=@Nat.mul_add
def UX:=@Nat.or_lt_two_pow
def UW:=@Nat.mul_lt_mul''
def p8:=@Nat.pow_lt_pow_right
def bJ:=@Nat.pow_add
def fJ:=@Nat.lt_trans
def Vl:=@Nat.eq_zero_or_pos
def dH:=@Nat.pow_le_pow_right
def Vk:=@Nat.two_pow_pos
def Ec:=@Nat.add_mul_div_left
def Tc:=@Nat.add_mul_mod_self_left
def Vj:=@List.drop_of_length_le
def ZC:=@Nat.le_of_lt
def Vh:=@Nat.pow_mul
def vQ:=@Nat.mul_le_mul_left
def xM:=@List.drop_zero
def Vy:=@List.drop_drop
def t8:=@Nat.mul_one
def eX:=@Nat.mul_lt_mul_of_pos_right
def kV:=@List.length_take
def Vx:=@List.length_drop
def Yl:=@Nat.mul_succ
def pF:=@Nat.pos_of_ne_zero
def yN:=@Bool.true_and
def Kp:=@List.length_eq_zero_iff
def Ko:=@Nat.gcd_dvd_right
def eW:=@Nat.div_le_self
def eV:=@Int.natAbs_mul
def Yk:=@Int.natAbs_natCast
def Vw:=@Nat.mul_ne_zero
def t7:=@Int.natCast_nonneg
def kK:=@Bool.false_and
def Vv:=@Rat.divInt_ofNat
def cG:=@List.pairwise_cons
def Vu:=@List.any_cons
def vO:=@Option.some.inj
def y8:=@List.length_map
def Vt:=@List.any_eq_true
def wW:=@List.take_length
def Kn:=@Rat.mul_nonneg
def s8:=@Rat.div_def
def Yj:=@Prod.mk.inj
def Sf:=@List.range_succ
def Kl:=@List.length_singleton
def Yi:=@Nat.mul_pos
def Vs:=@Bool.false_ne_true
def Gz:=@List.pairwise_iff_getElem
def Gy:=@Bool.and_eq_true_iff
def nqb (m n:Nat):Bool:=m == n
def nle (m n:Nat):Bool:=(m-n) == 0
def nlt (m n:Nat):Bool:=(m+1-n) == 0
@[simp] theorem nqb_iff {m n:Nat}:(nqb m n=true)=(m=n):=by simp[nqb]
@[simp] theorem nle_iff {m n:Nat}:(nle m n=true)=(m<=n):=by simp[nle];omega
@[simp] theorem nlt_iff {m n:Nat}:(nlt m n=true)=(m<n):=by simp[nlt];omega
theorem xC {m n:Nat}(h:nqb m n=true):m=n:=by simpa using h
theorem nF {m n:Nat}(h:nle m n=true):m<=n:=by simpa using h
theorem QC {m n:Nat}(h:nlt m n=true):m<n:=by simpa using h
@[simp] theorem nqb_self (n:Nat):nqb n n=true:=by simp
inductive D where
 |int (k:IntKind) (n:Int)
 |bool (b:Bool)
 |str (s:ByteArray)
 |sl (els:List (List D))
 |any
inductive PV where
 |int (k:IntKind) (n:Unit->Int)
 |tt
 |ff
 |bool (b:Unit->Bool)
 |nbool (b:Unit->Bool)
 |str (s:Unit->ByteArray)
 |nil
 |sl (els:Unit->List (List D))
 |agg (cs:List PV)
 |tup (vs:List PV)
 |ptr (n off:Nat)
 |aptr (n s:Nat) (i:Unit->Nat) (off:Nat)
 |dptr (cs:List PV) (off:Nat)
 |osl (n s:Nat) (o len:Unit->Nat)
 |fn (f:FuncId) (caps:List PV)
 |nilf
 |nilp
 |mpv (n:Nat)
 |emp
 |any
instance:Inhabited PV:=⟨.any⟩
inductive Obj' where
 |box (cs:List PV)
 |arr (s:Nat) (els:Unit->List (List D))
 |log (s:Nat) (els:Unit->List (List D))
 |lent (s:Nat) (els:Unit->List (List D))
 |mat (s:Nat) (rows:Unit->List (List (List D))) (hs:List (PV×(Unit->Nat)))
 |mp (t:Nat) (ks:Unit->List Int)
structure PS where
 tmps:List (Nat×PV)
 objs:List (Nat×Obj')
inductive Ty where
 |sc (z:PV)
 |st (n:Nat) (fs:List (Nat×Nat×Bool)) (z:List PV)
 |sli (n b:Nat) (z:List PV)
 |arr (len n:Nat) (ag:Bool) (z:List PV)
 |no
def Ty.cells:Ty->Nat
 |.sc _=>1| .sli _ _ _=>1| .st n _ _=>n| .arr len n _ _=>len*n| .no=>0
def Ty.isA:Ty->Bool
 |.st _ _ _=>true| .arr _ _ _ _=>true| _=>false
def Ty.isNo:Ty->Bool
 |.no=>true| _=>false
def Ty.zero:Ty->List PV
 |.sc z=>[z]| .sli _ _ _=>[.nil]| .st _ _ z=>z| .arr _ _ _ z=>z| .no=>[]
def zF (l:List (Nat×PV)) (t:Nat):PV :=
 match l with
 |[]=>.any| (u,v)::r=>(match nqb u t with|true=>v|false=>zF r t)
def uG (l:List (Nat×PV)) (t:Nat) (x:PV):List (Nat×PV) :=
 match l with
 |[]=>[(t,x)]| (u,v)::r=>(match nqb u t with|true=>(t,x)::r|false=>(u,v)::uG r t x)
def yO (l:List (Nat×Obj')) (n:Nat):Option Obj' :=
 match l with
 |[]=>none| (u,v)::r=>(match nqb u n with|true=>some v|false=>yO r n)
def setO (l:List (Nat×Obj')) (n:Nat) (x:Obj'):List (Nat×Obj') :=
 match l with
 |[]=>[(n,x)]| (u,v)::r=>(match nqb u n with|true=>(n,x)::r|false=>(u,v)::setO r n x)
def uD (l:List (Nat×Obj')) (n:Nat):List (Nat×Obj') :=
 match l with
 |[]=>[]| (u,v)::r=>(match nqb u n with|true=>uD r n|false=>(u,v)::uD r n)
def put (ps:PS) (d:Option Nat) (v:PV):PS :=
 match d with
 |none=>ps| some d=>⟨uG ps.tmps d v,ps.objs⟩
def wP:Value->PV
 |.int k n=>.int k (λ_=>n)| .bool true=>.tt| .bool false=>.ff| .string s=>.str (λ_=>s)| .slice none 0 0=>.nil| .nilFunc=>.nilf| .pointer none=>.nilp| _=>.any
def ev (τ:Nat->PV):Operand->PV
 |.tmp t=>τ t| .const v=>wP v| .func f=>.fn f []| .global _=>.any
def yR:PV->List PV
 |.agg cs=>cs| v=>[v]
def yS (f:PV->Bool):List PV->Bool
 |[]=>true| v::r=>f v&&yS f r
def vG (f:PV->PV):List PV->List PV
 |[]=>[]| v::r=>f v::vG f r
def rf0 (n:Nat):PV->Bool
 |.agg _=>false| .tup _=>false| .fn _ _=>false| .ptr m _=>!(nqb m n)| .aptr m _ _ _=>!(nqb m n)| .osl m _ _ _=>!(nqb m n)| .mpv m=>!(nqb m n)| _=>true
def rf1 (n:Nat):PV->Bool
 |.agg cs=>yS (rf0 n) cs| .tup cs=>yS (rf0 n) cs| .fn _ cs=>yS (rf0 n) cs| v=>rf0 n v
def wO (n:Nat):PV->Bool
 |.agg cs=>yS (rf1 n) cs| .tup cs=>yS (rf1 n) cs| .fn _ cs=>yS (rf1 n) cs| v=>rf0 n v
def wC (n:Nat):List PV->Bool:=yS (wO n)
def qZ:PV->Bool
 |.int _ _=>true| .tt=>true| .ff=>true| .bool _=>true| .nbool _=>true| .str _=>true| .sl _=>true| .any=>true| _=>false
def iY:PV->Bool
 |.nil=>true| v=>qZ v
def Zu:PV->Bool
 |.nil=>true| .any=>false| v=>qZ v
def mO:PV->Bool
 |.agg _=>false| .tup _=>false| .any=>false| _=>true
def gQ:PV->Bool
 |.agg _=>true| v=>mO v
def nS:List (List PV)->Bool
 |[]=>true| v::r=>yS Zu v&&nS r
def WU:PV->PV
 |.nil=>.sl (λ_=>[])| v=>v
def toD:PV->D
 |.int k n=>.int k (n ())| .tt=>.bool true| .ff=>.bool false| .bool b=>.bool (b ())| .nbool b=>.bool (!(b ()))| .str s=>.str (s ())| .nil=>.sl []| .sl els=>.sl (els ())| _=>.any
def xE:List PV->List D
 |[]=>[]| v::r=>toD v::xE r
def zL:List (List PV)->List (List D)
 |[]=>[]| v::r=>xE v::zL r
def VH:Obj'->Option (Nat×(Unit->List (List D)))
 |.arr s els=>some (s,els)| .log s els=>some (s,els)| .lent s els=>some (s,els)| .box _=>none| .mat _ _ _=>none| .mp _ _=>none
def fz0 (n:Nat) (o:Obj'):PV->PV
 |.agg _=>.any| .tup _=>.any| .fn _ _=>.any| .ptr m off=>(match nqb m n with|true=>(match o with|.box cs=>.dptr (vG WU cs) off|_=>.any)|false=>.ptr m off)| .aptr m s i off=>(match nqb m n with|true=>.any|false=>.aptr m s i off)| .osl m s i len=>(match nqb m n with|true=>(match VH o with|some (s',els)=>(match nqb s s' with|true=>.sl (λ_=>((els ()).drop (i ())).take (len ()))|false=>.any)|none=>.any)|false=>.osl m s i len)| .mpv m=>(match nqb m n with|true=>.any|false=>.mpv m)| v=>v
def fz1 (n:Nat) (o:Obj'):PV->PV
 |.agg cs=>.agg (vG (fz0 n o) cs)| .tup cs=>.tup (vG (fz0 n o) cs)| .fn f cs=>.fn f (vG (fz0 n o) cs)| v=>fz0 n o v
def frz (n:Nat) (o:Obj'):PV->PV
 |.agg cs=>.agg (vG (fz1 n o) cs)| .tup cs=>.tup (vG (fz1 n o) cs)| .fn f cs=>.fn f (vG (fz1 n o) cs)| v=>fz0 n o v
def sc0 (n:Nat):PV->PV
 |.agg _=>.any| .tup _=>.any| .fn _ _=>.any| .ptr m off=>(match nqb m n with|true=>.any|false=>.ptr m off)| .aptr m s i off=>(match nqb m n with|true=>.any|false=>.aptr m s i off)| .osl m s i len=>(match nqb m n with|true=>.any|false=>.osl m s i len)| .mpv m=>(match nqb m n with|true=>.any|false=>.mpv m)| v=>v
def sc1 (n:Nat):PV->PV
 |.agg cs=>.agg (vG (sc0 n) cs)| .tup cs=>.tup (vG (sc0 n) cs)| .fn f cs=>.fn f (vG (sc0 n) cs)| v=>sc0 n v
def scr (n:Nat):PV->PV
 |.agg cs=>.agg (vG (sc1 n) cs)| .tup cs=>.tup (vG (sc1 n) cs)| .fn f cs=>.fn f (vG (sc1 n) cs)| v=>sc0 n v
def uI (f:PV->PV):List (Nat×PV)->List (Nat×PV)
 |[]=>[]| (t,v)::r=>(t,f v)::uI f r
def sP (f:PV->PV):List (PV×(Unit->Nat))->List (PV×(Unit->Nat))
 |[]=>[]| (v,k)::r=>(f v,k)::sP f r
def xO (f:PV->PV):List (Nat×Obj')->List (Nat×Obj')
 |[]=>[]| (n,.box cs)::r=>(n,.box (vG f cs))::xO f r| (n,.arr s els)::r=>(n,.arr s els)::xO f r| (n,.log s els)::r=>(n,.log s els)::xO f r| (n,.lent s els)::r=>(n,.lent s els)::xO f r| (n,.mat s rows hs)::r=>(n,.mat s rows (sP f hs))::xO f r| (n,.mp t ks)::r=>(n,.mp t ks)::xO f r
def pQ (n:Nat):List (Nat×PV)->Bool
 |[]=>true| (_,v)::r=>wO n v&&pQ n r
def sG (n:Nat):List (PV×(Unit->Nat))->Bool
 |[]=>true| (v,_)::r=>wO n v&&sG n r
def xI (n:Nat):List (Nat×Obj')->Bool
 |[]=>nlt n 1000000| (m,.box cs)::r=>!(nqb m n)&&wC n cs&&xI n r| (m,.arr _ _)::r=>!(nqb m n)&&xI n r| (m,.log _ _)::r=>!(nqb m n)&&xI n r| (m,.lent _ _)::r=>!(nqb m n)&&xI n r| (m,.mat _ _ hs)::r=>!(nqb m n)&&sG n hs&&xI n r| (m,.mp _ _)::r=>!(nqb m n)&&xI n r
def yV (n:Nat) (ps:PS):Bool:=pQ n ps.tmps&&xI n ps.objs
def yG (n:Nat):List Nat->Bool
 |[]=>false| m::r=>nqb m n || yG n r
def nm0 (l:List Nat):PV->Bool
 |.agg _=>false| .tup _=>false| .fn _ _=>false| .ptr m _=>yG m l| .aptr m _ _ _=>yG m l| .osl m _ _ _=>yG m l| .mpv m=>yG m l| _=>true
def nm1 (l:List Nat):PV->Bool
 |.agg cs=>yS (nm0 l) cs| .tup cs=>yS (nm0 l) cs| .fn _ cs=>yS (nm0 l) cs| v=>nm0 l v
def nmIn (l:List Nat):PV->Bool
 |.agg cs=>yS (nm1 l) cs| .tup cs=>yS (nm1 l) cs| .fn _ cs=>yS (nm1 l) cs| v=>nm0 l v
def uX:List PV->Nat->List PV->List PV
 |c::cs,0,v::vs=>v::uX cs 0 vs| cs,0,[]=>cs| [],_,_=>[]| c::cs,n+1,vs=>c::uX cs n vs
structure Br (b:Unit->Bool) (A B:Unit->Prop):Prop where
 t:b ()=true->A ()
 f:b ()=false->B ()
structure InI64 (z:Unit->Int):Prop where
 lo:-9223372036854775808<=z ()
 hi:z ()<=9223372036854775807
structure Nn (b:Unit->Int):Prop where
 h:0<=b ()
structure Nz (b:Unit->Int):Prop where
 h:b ()≠0
structure Rng (k:Unit->Int) (len:Unit->Nat):Prop where
 lo:0<=k ()
 hi:k ()<(len ():Int)
structure IdxOk (n:Nat) (els:Unit->List (List D)) (k:Unit->Int) (K:List PV->Prop):Prop where
 h:0<=k ()/\∃ c:List PV,yS qZ c=true/\c.length=n/\(els ())[(k ()).toNat]?=some (xE c)/\K c
structure ElOk (n:Nat) (els:Unit->List (List D)) (i:Unit->Nat) (K:List PV->Prop):Prop where
 h:∃ c:List PV,yS qZ c=true/\c.length=n/\(els ())[i ()]?=some (xE c)/\K c
structure SlOk (l h:Unit->Int) (len:Unit->Nat):Prop where
 lo:0<=l ()
 mid:l ()<=h ()
 hi:h ()<=(len ():Int)
structure SlNe (l h:Unit->Int):Prop where
 lt:l ()<h ()
structure Wid (n:Nat) (els:Unit->List (List D)):Prop where
 h:∀ e,e∈els ()->e.length=n
structure Room (n:Unit->Int) (b:Nat):Prop where
 lo:0<=n ()
 hi:n ()*(b:Int)<=70368744177664
structure MkOk (x y:Unit->Int):Prop where
 lo:0<=x ()
 hi:x ()<=y ()
@[irreducible] def nx (k:IntKind) (n:Int):Int:=k.wrap n
@[irreducible] def iquo (a b:Int):Int:=a.tdiv b
@[irreducible] def irem (a b:Int):Int:=a.tmod b
@[irreducible] def ishl (k:IntKind) (a b:Int):Int:=k.wrap (a*2^(min b.toNat k.bits))
@[irreducible] def ishr (k:IntKind) (a b:Int):Int:=a.fdiv (2^(min b.toNat k.bits))
@[irreducible] def iand (k:IntKind) (a b:Int):Int:=k.wrap (BitVec.ofInt k.bits a &&& BitVec.ofInt k.bits b).toNat
@[irreducible] def ior (k:IntKind) (a b:Int):Int:=k.wrap (BitVec.ofInt k.bits a ||| BitVec.ofInt k.bits b).toNat
@[irreducible] def imax (a b:Int):Int:=if a<b then b else a
@[irreducible] def imin (a b:Int):Int:=if b<a then b else a
def brV (v:PV) (A B:Unit->Prop):Prop :=
 match v with
 |.tt=>A ()| .ff=>B ()| .bool b=>Br b A B| .nbool b=>Br b B A| _=>False
def GU (k k':IntKind):Bool:=decide (k=k')
def arK (k:IntKind) (z:Unit->Int) (K:PV->Prop):Prop :=
 match k with
 |.i64=>InI64 z/\K (.int .i64 z)| k=>K (.int k (λ_=>nx k (z ())))
def DR (op:BinOp) (k:IntKind) (a:Unit->Int) (k':IntKind) (b:Unit->Int) (K:PV->Prop):Prop :=
 match op with
 |.shl=>Nn b/\K (.int k (λ_=>ishl k (a ()) (b ())))| .shr=>Nn b/\K (.int k (λ_=>ishr k (a ()) (b ())))
 |op=>(match GU k k' with
  |true=>(match op with
   |.add=>arK k (λ_=>a ()+b ()) K| .sub=>arK k (λ_=>a ()-b ()) K| .mul=>arK k (λ_=>a ()*b ()) K| .quo=>Nz b/\K (.int k (λ_=>nx k (iquo (a ()) (b ()))))| .rem=>Nz b/\K (.int k (λ_=>irem (a ()) (b ())))| .and=>K (.int k (λ_=>iand k (a ()) (b ())))| .or=>K (.int k (λ_=>ior k (a ()) (b ())))| .eql=>K (.bool (λ_=>decide (a ()=b ())))| .neq=>K (.nbool (λ_=>decide (a ()=b ())))| .lss=>K (.bool (λ_=>decide (a ()<b ())))| .leq=>K (.bool (λ_=>decide (a ()<=b ())))| .gtr=>K (.bool (λ_=>decide (b ()<a ())))| .geq=>K (.bool (λ_=>decide (b ()<=a ())))| _=>False)
  |false=>False)
def AW:PV->Option (Unit->Bool)
 |.tt=>some (λ_=>true)| .ff=>some (λ_=>false)| .bool b=>some b| _=>none
inductive Fld where
 |i (n:Unit->Int)
 |b (n:Unit->Bool)
def Fld.v:Fld->Value
 |.i n=>.int .i64 (n ())| .b n=>.bool (n ())
def Ak:PV->Option Fld
 |.int .i64 n=>some (.i n)
 |v=>match AW v with
  |some b=>some (.b b)| none=>none
def Z5:List PV->Option (List Fld)
 |[]=>some []
 |v::r=>match Ak v,Z5 r with
  |some x,some l=>some (x::l)| _,_=>none
def Zr:List Fld->List Value
 |[]=>[]| x::r=>x.v::Zr r
def rdK (ty:Ty) (cs:List PV) (off:Nat) (K:PV->Prop):Prop :=
 (match ty.isNo with|true=>False|false=>(match nle (off+ty.cells) cs.length with|true=>K ((match ty.isA with|true=>.agg ((cs.drop off).take ty.cells)|false=>cs.getD off .any))|false=>False))
def UO (fs:List (Nat×Nat×Bool)):List (Nat×PV)->List PV->Option (List PV)
 |[],z=>some z
 |(i,v)::r,z=>match fs[i]? with
  |some (off,sz,_)=>(match nqb (yR v).length sz&&nle (off+sz) z.length&&gQ v with|true=>UO fs r (uX z off (yR v))|false=>none)| none=>none
def UP (n:Nat):List (Nat×PV)->List PV->Option (List PV)
 |[],z=>some z| (i,v)::r,z=>(match nqb (yR v).length n&&nle (i*n+n) z.length&&gQ v with|true=>UP n r (uX z (i*n) (yR v))|false=>none)
def rM (n:Nat):List (Nat×PV)->List (List PV)->Option (List (List PV))
 |[],z=>some z| (i,v)::r,z=>(match nqb (yR v).length n&&nlt i z.length&&gQ v with|true=>rM n r (z.set i (yR v))|false=>none)
def pP (z:List PV):Nat->List (List PV)
 |0=>[]| n+1=>z::pP z n
def S7:List (List PV)->PV
 |[]=>.emp| x::r=>.sl (λ_=>zL (x::r))
def v7 (e:Operand->PV):List (Nat×Operand)->List (Nat×PV)
 |[]=>[]| (i,o)::r=>(i,e o)::v7 e r
def evs (e:Operand->PV):List Operand->List PV
 |[]=>[]| o::r=>e o::evs e r
def MZ (t:Ty) (v:PV) (K:PV->Prop):Prop :=
 match t with
 |.sli _ _ _=>(match v with
  |.sl els=>K (.int .i64 (λ_=>((els ()).length:Nat)))| .osl _ _ _ l=>K (.int .i64 (λ_=>(l ():Nat)))| .nil=>K (.int .i64 (λ_=>0))| .emp=>K (.int .i64 (λ_=>0))| _=>False)
 |_=>False
def i8 (e:Operand->PV) (d:Unit->Int):Option Operand->Option (Unit->Int)
 |none=>some d
 |some o=>match e o with
  |.int _ n=>some n| _=>none
def j4 (P:Program) (t:TypeId):Bool :=
 match P.underlying t with
 |some (.struct _)=>true| some (.array _ _)=>true| _=>false
def Dh (P:Program) (i:TypeInfo) (fs:Array Field):Ty :=
 match i.zero with
 |some (.agg zs)=>if (∀ f,f∈fs.toList->0<P.cellsOf f.type)/\zs.size=i.size/\(∀ f,f∈fs.toList->(P.underlying f.type).isSome=true) then .st i.size (fs.toList.map λf=>(f.offset,P.cellsOf f.type,j4 P f.type)) (zs.toList.map wP) else .no| _=>.no
def Ss (P:Program) (i:TypeInfo) (e:TypeId):Ty :=
 if i.size≠1 then .no else
 match i.zero,P.info? e with
 |some (.slice none 0 0),some j=>match j.zero with
  |some z=>if z.cells.size=j.size/\0<j.size/\0<j.bytes then .sli j.size j.bytes (z.cells.toList.map wP) else .no| none=>.no
 |_,_=>.no
def SV (P:Program) (i:TypeInfo) (len:Nat) (e:TypeId):Ty :=
 match i.zero with
 |some (.agg zs)=>if zs.size=i.size/\i.size=len*P.cellsOf e/\1<len/\0<P.cellsOf e/\(P.underlying e).isSome=true then .arr len (P.cellsOf e) (j4 P e) (zs.toList.map wP) else .no| _=>.no
def Di (i:TypeInfo) (d:TypeDesc):Ty :=
 match i.zero with
 |some zv=>if i.size=1 then (match d,zv with
  |.int k,.int k' n=>if k=k' then .sc (.int k (λ_=>n)) else .no| .bool,.bool false=>.sc .ff| .func _ _ _,.nilFunc=>.sc .nilf| .pointer _,.pointer none=>.sc .nilp| .map _ _,.map none=>.sc .any| .string,.string s=>.sc (.str (λ_=>s))| _,_=>.no) else .no
 |none=>.no
def vF (P:Program) (t:TypeId):Ty :=
 match P.info? t,P.underlying t with
 |some i,some (.struct fs)=>Dh P i fs| some i,some (.slice e)=>Ss P i e| some i,some (.array len e)=>SV P i len e| some i,some d=>Di i d| _,_=>.no
end Go.Proofs.YtaeaffgjdcigoaaGreat
