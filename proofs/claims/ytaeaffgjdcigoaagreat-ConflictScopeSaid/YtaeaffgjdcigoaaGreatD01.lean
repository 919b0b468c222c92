/- A part of the proof: PmA. -/
import Derived.Orders
import Derived.WalkKit
import Derived.WalkSpells
import Derived.Deep.AppendSrc
import Derived.Laws.MakeOwn
set_option linter.all false
namespace Go.Proofs.YtaeaffgjdcigoaaGreat
open Go
theorem oM {p:Prop}(h:p:=by omega):p:=h
def yZ:=@Bool.and_eq_true
def Fr:=@Bool.or_eq_true
def x9:=@List.mem_cons_of_mem
def iO:=@Option.some.injEq
def wB:=@List.mem_cons_self
def WV:=@Nat.add_zero
def cX:=@List.length_cons
def AR:=@List.getD_cons_succ
def Fq:=@List.foldl_cons
def Wm:=@List.cons_append
def Zd:=@Nat.zero_mul
def jB:=@Nat.mul_le_mul_right
def yM:=@List.mem_cons
def qP:=@Nat.mod_eq_of_lt
def fO:=@List.getD_eq_getElem?_getD
def Z8:=@List.getElem?_append_right
def vI:=@Nat.le_trans
def uP:=@Nat.lt_of_lt_of_le
def yC:=@Nat.le_refl
def gW:=@Nat.zero_add
def v8:=@Nat.mod_lt
def yY:=@Nat.zero_le
def bB:=@List.mem_of_mem_take
def Wu:=@Nat.sub_self
def C6:=@List.getElem?_append_left
def jZ:=@Nat.add_mul
def jP:=@List.map_cons
def Gr:=@Bool.or_eq_false_iff
def Ws:=@Bool.not_eq_true'
def Zc:=@List.nodup_cons
def qH:=@List.mem_append
def jA:=@List.mem_singleton
def gV:=@List.map_append
def Wr:=@List.nodup_append
def xB:=@List.mem_map
def pQ:=@List.getElem?_eq_none
def KS:=@List.length_set
def VQ:=@List.mem_append_left
def C5:=@List.mem_append_right
def Zb:=@Nat.add_assoc
def Za:=@List.getElem?_map
def VP:=@Option.map_eq_some_iff
def z8:=@List.mem_of_getElem?
def Gq:=@Option.isSome_iff_exists
def Gp:=@Array.getD_eq_getD_getElem?
def KR:=@Array.getElem?_eq_getElem
def Gn:=@List.length_replicate
def Z7:=@Nat.add_comm
def rB:=@List.length_append
def s9:=@List.getElem?_take_of_lt
def o9:=@Nat.div_lt_iff_lt_mul
def KQ:=@Nat.div_eq_of_lt
def jO:=@List.eq_nil_of_length_eq_zero
def qT:=@Nat.mul_comm
def Gm:=@List.size_toArray
def jN:=@Nat.lt_or_ge
def KP:=@List.nil_append
def kF:=@List.append_nil
def KO:=@Bool.and_true
def Wq:=@List.getElem?_cons_zero
def Z6:=@List.getElem?_cons_succ
def s8:=@List.all_eq_true
def jM:=@List.getElem?_eq_getElem
def sI:=@Bool.false_or
def x8:=@List.drop_length
def vV:=@List.getElem?_eq_some_iff
def yW:=@List.take_of_length_le
def s7:=@Bool.eq_iff_iff
def Wp:=@Bool.true_or
def tN:=@List.take_add_one
def o8:=@List.take_append_drop
def KN:=@List.append_assoc
def o7:=@Int.toNat_natCast
def Z5:=@List.map_take
def Gl:=@List.map_drop
def o6:=@UInt32.toNat_inj
def tM:=@List.length_nil
def xL:=@Nat.lt_of_le_of_lt
def C4:=@Int.fdiv_eq_ediv_of_nonneg
def Wo:=@List.map_nil
def Wn:=@Nat.mod_add_div
def uH:=@Nat.pow_succ
def gU:=@Nat.mul_assoc
def qG:=@Nat.mul_add
def VO:=@Nat.or_lt_two_pow
def VN:=@Nat.mul_lt_mul''
def pP:=@Nat.pow_lt_pow_right
def cL:=@Nat.pow_add
def gT:=@Nat.lt_trans
def Wl:=@Nat.eq_zero_or_pos
def fY:=@Nat.pow_le_pow_right
def Wj:=@Nat.two_pow_pos
def MG:=@Nat.add_mul_div_left
def Sl:=@Nat.add_mul_mod_self_left
def Wi:=@List.drop_of_length_le
def o5:=@Nat.le_of_lt
def Wh:=@Nat.pow_mul
def vS:=@Nat.mul_le_mul_left
def wN:=@List.drop_zero
def tH:=@List.drop_drop
def tG:=@Nat.mul_one
def iQ:=@Nat.mul_lt_mul_of_pos_right
def dM:=@List.length_take
def Wy:=@List.length_drop
def rQ:=@Nat.pos_of_ne_zero
def yL:=@Bool.true_and
def J5:=@List.length_eq_zero_iff
def Qg:=@Nat.gcd_dvd_right
def mS:=@Nat.div_le_self
def iP:=@Int.natAbs_mul
def ZJ:=@Int.natAbs_natCast
def Wx:=@Nat.mul_ne_zero
def rO:=@Int.natCast_nonneg
def qF:=@Bool.false_and
def Ww:=@Rat.divInt_ofNat
def sK:=@List.pairwise_cons
def qQ:=@Option.some.inj
def wH:=@List.length_map
def vP:=@List.take_length
def sJ:=@Rat.div_def
def ZI:=@Prod.mk.inj
def ZH:=@Nat.mul_pos
def Wv:=@Bool.false_ne_true
def nqb (m n:Nat):Bool:=m == n
def nle (m n:Nat):Bool:=(m-n) == 0
def nlt (m n:Nat):Bool:=(m+1-n) == 0
@[simp] theorem nqb_iff {m n:Nat}:(nqb m n=true)=(m=n):=by simp[nqb]
@[simp] theorem nle_iff {m n:Nat}:(nle m n=true)=(m<=n):=by simp[nle];omega
@[simp] theorem nlt_iff {m n:Nat}:(nlt m n=true)=(m<n):=by simp[nlt];omega
theorem xE {m n:Nat}(h:nqb m n=true):m=n:=by simpa using h
theorem mE {m n:Nat}(h:nle m n=true):m<=n:=by simpa using h
theorem Ux {m n:Nat}(h:nlt m n=true):m<n:=by simpa using h
@[simp] theorem nqb_self (n:Nat):nqb n n=true:=by simp
inductive D where
 |int (k:IntKind) (n:Int)
 |bool (b:Bool)
 |str (s:ByteArray)
 |sl (els:List (List D))
 |any
inductive PV where
 |int (k:IntKind) (n:Unit->Int)
 |tt
 |ff
 |bool (b:Unit->Bool)
 |nbool (b:Unit->Bool)
 |str (s:Unit->ByteArray)
 |nil
 |sl (els:Unit->List (List D))
 |agg (cs:List PV)
 |tup (vs:List PV)
 |ptr (n off:Nat)
 |aptr (n s:Nat) (i:Unit->Nat) (off:Nat)
 |dptr (cs:List PV) (off:Nat)
 |osl (n s:Nat) (o len:Unit->Nat)
 |fn (f:FuncId) (caps:List PV)
 |nilf
 |nilp
 |mpv (n:Nat)
 |emp
 |any
instance:Inhabited PV:=⟨.any⟩
inductive Obj' where
 |box (cs:List PV)
 |arr (s:Nat) (els:Unit->List (List D))
 |log (s:Nat) (els:Unit->List (List D))
 |lent (s:Nat) (els:Unit->List (List D))
 |mat (s:Nat) (rows:Unit->List (List (List D))) (hs:List (PV×(Unit->Nat)))
 |mp (t:Nat) (ks:Unit->List Int)
structure PS where
 tmps:List (Nat×PV)
 objs:List (Nat×Obj')
inductive Ty where
 |sc (z:PV)
 |st (n:Nat) (fs:List (Nat×Nat×Bool)) (z:List PV)
 |sli (n b:Nat) (z:List PV)
 |arr (len n:Nat) (ag:Bool) (z:List PV)
 |no
def Ty.cells:Ty->Nat
 |.sc _=>1| .sli _ _ _=>1| .st n _ _=>n| .arr len n _ _=>len*n| .no=>0
def Ty.isA:Ty->Bool
 |.st _ _ _=>true| .arr _ _ _ _=>true| _=>false
def Ty.isNo:Ty->Bool
 |.no=>true| _=>false
def Ty.zero:Ty->List PV
 |.sc z=>[z]| .sli _ _ _=>[.nil]| .st _ _ z=>z| .arr _ _ _ z=>z| .no=>[]
def zF (l:List (Nat×PV)) (t:Nat):PV :=
 match l with
 |[]=>.any| (u,v)::r=>(match nqb u t with|true=>v|false=>zF r t)
def uC (l:List (Nat×PV)) (t:Nat) (x:PV):List (Nat×PV) :=
 match l with
 |[]=>[(t,x)]| (u,v)::r=>(match nqb u t with|true=>(t,x)::r|false=>(u,v)::uC r t x)
def yO (l:List (Nat×Obj')) (n:Nat):Option Obj' :=
 match l with
 |[]=>none| (u,v)::r=>(match nqb u n with|true=>some v|false=>yO r n)
def setO (l:List (Nat×Obj')) (n:Nat) (x:Obj'):List (Nat×Obj') :=
 match l with
 |[]=>[(n,x)]| (u,v)::r=>(match nqb u n with|true=>(n,x)::r|false=>(u,v)::setO r n x)
def uA (l:List (Nat×Obj')) (n:Nat):List (Nat×Obj') :=
 match l with
 |[]=>[]| (u,v)::r=>(match nqb u n with|true=>uA r n|false=>(u,v)::uA r n)
def put (ps:PS) (d:Option Nat) (v:PV):PS :=
 match d with
 |none=>ps| some d=>⟨uC ps.tmps d v,ps.objs⟩
def wK:Value->PV
 |.int k n=>.int k (λ_=>n)| .bool true=>.tt| .bool false=>.ff| .string s=>.str (λ_=>s)| .slice none 0 0=>.nil| .nilFunc=>.nilf| .pointer none=>.nilp| _=>.any
def ev (τ:Nat->PV):Operand->PV
 |.tmp t=>τ t| .const v=>wK v| .func f=>.fn f []| .global _=>.any
def yS:PV->List PV
 |.agg cs=>cs| v=>[v]
def yT (f:PV->Bool):List PV->Bool
 |[]=>true| v::r=>f v&&yT f r
def w8 (f:PV->PV):List PV->List PV
 |[]=>[]| v::r=>f v::w8 f r
def rf0 (n:Nat):PV->Bool
 |.agg _=>false| .tup _=>false| .fn _ _=>false| .ptr m _=>!(nqb m n)| .aptr m _ _ _=>!(nqb m n)| .osl m _ _ _=>!(nqb m n)| .mpv m=>!(nqb m n)| _=>true
def rf1 (n:Nat):PV->Bool
 |.agg cs=>yT (rf0 n) cs| .tup cs=>yT (rf0 n) cs| .fn _ cs=>yT (rf0 n) cs| v=>rf0 n v
def wJ (n:Nat):PV->Bool
 |.agg cs=>yT (rf1 n) cs| .tup cs=>yT (rf1 n) cs| .fn _ cs=>yT (rf1 n) cs| v=>rf0 n v
def wA (n:Nat):List PV->Bool:=yT (wJ n)
def qS:PV->Bool
 |.int _ _=>true| .tt=>true| .ff=>true| .bool _=>true| .nbool _=>true| .str _=>true| .sl _=>true| .any=>true| _=>false
def lQ:PV->Bool
 |.nil=>true| v=>qS v
def oT:PV->Bool
 |.nil=>true| .any=>false| v=>qS v
def tQ:PV->Bool
 |.agg _=>false| .tup _=>false| .any=>false| _=>true
def j8:PV->Bool
 |.agg _=>true| v=>tQ v
def mO:List (List PV)->Bool
 |[]=>true| v::r=>yT oT v&&mO r
def XT:PV->PV
 |.nil=>.sl (λ_=>[])| v=>v
def toD:PV->D
 |.int k n=>.int k (n ())| .tt=>.bool true| .ff=>.bool false| .bool b=>.bool (b ())| .nbool b=>.bool (!(b ()))| .str s=>.str (s ())| .nil=>.sl []| .sl els=>.sl (els ())| _=>.any
def xD:List PV->List D
 |[]=>[]| v::r=>toD v::xD r
def zS:List (List PV)->List (List D)
 |[]=>[]| v::r=>xD v::zS r
def WJ:Obj'->Option (Nat×(Unit->List (List D)))
 |.arr s els=>some (s,els)| .log s els=>some (s,els)| .lent s els=>some (s,els)| .box _=>none| .mat _ _ _=>none| .mp _ _=>none
def fz0 (n:Nat) (o:Obj'):PV->PV
 |.agg _=>.any| .tup _=>.any| .fn _ _=>.any| .ptr m off=>(match nqb m n with|true=>(match o with|.box cs=>.dptr (w8 XT cs) off|_=>.any)|false=>.ptr m off)| .aptr m s i off=>(match nqb m n with|true=>.any|false=>.aptr m s i off)| .osl m s i len=>(match nqb m n with|true=>(match WJ o with|some (s',els)=>(match nqb s s' with|true=>.sl (λ_=>((els ()).drop (i ())).take (len ()))|false=>.any)|none=>.any)|false=>.osl m s i len)| .mpv m=>(match nqb m n with|true=>.any|false=>.mpv m)| v=>v
def fz1 (n:Nat) (o:Obj'):PV->PV
 |.agg cs=>.agg (w8 (fz0 n o) cs)| .tup cs=>.tup (w8 (fz0 n o) cs)| .fn f cs=>.fn f (w8 (fz0 n o) cs)| v=>fz0 n o v
def frz (n:Nat) (o:Obj'):PV->PV
 |.agg cs=>.agg (w8 (fz1 n o) cs)| .tup cs=>.tup (w8 (fz1 n o) cs)| .fn f cs=>.fn f (w8 (fz1 n o) cs)| v=>fz0 n o v
def sc0 (n:Nat):PV->PV
 |.agg _=>.any| .tup _=>.any| .fn _ _=>.any| .ptr m off=>(match nqb m n with|true=>.any|false=>.ptr m off)| .aptr m s i off=>(match nqb m n with|true=>.any|false=>.aptr m s i off)| .osl m s i len=>(match nqb m n with|true=>.any|false=>.osl m s i len)| .mpv m=>(match nqb m n with|true=>.any|false=>.mpv m)| v=>v
def sc1 (n:Nat):PV->PV
 |.agg cs=>.agg (w8 (sc0 n) cs)| .tup cs=>.tup (w8 (sc0 n) cs)| .fn f cs=>.fn f (w8 (sc0 n) cs)| v=>sc0 n v
def scr (n:Nat):PV->PV
 |.agg cs=>.agg (w8 (sc1 n) cs)| .tup cs=>.tup (w8 (sc1 n) cs)| .fn f cs=>.fn f (w8 (sc1 n) cs)| v=>sc0 n v
def uE (f:PV->PV):List (Nat×PV)->List (Nat×PV)
 |[]=>[]| (t,v)::r=>(t,f v)::uE f r
def aT (f:PV->PV):List (PV×(Unit->Nat))->List (PV×(Unit->Nat))
 |[]=>[]| (v,k)::r=>(f v,k)::aT f r
def xO (f:PV->PV):List (Nat×Obj')->List (Nat×Obj')
 |[]=>[]| (n,.box cs)::r=>(n,.box (w8 f cs))::xO f r| (n,.arr s els)::r=>(n,.arr s els)::xO f r| (n,.log s els)::r=>(n,.log s els)::xO f r| (n,.lent s els)::r=>(n,.lent s els)::xO f r| (n,.mat s rows hs)::r=>(n,.mat s rows (aT f hs))::xO f r| (n,.mp t ks)::r=>(n,.mp t ks)::xO f r
def r9 (n:Nat):List (Nat×PV)->Bool
 |[]=>true| (_,v)::r=>wJ n v&&r9 n r
def aM (n:Nat):List (PV×(Unit->Nat))->Bool
 |[]=>true| (v,_)::r=>wJ n v&&aM n r
def xH (n:Nat):List (Nat×Obj')->Bool
 |[]=>nlt n 1000000| (m,.box cs)::r=>!(nqb m n)&&wA n cs&&xH n r| (m,.arr _ _)::r=>!(nqb m n)&&xH n r| (m,.log _ _)::r=>!(nqb m n)&&xH n r| (m,.lent _ _)::r=>!(nqb m n)&&xH n r| (m,.mat _ _ hs)::r=>!(nqb m n)&&aM n hs&&xH n r| (m,.mp _ _)::r=>!(nqb m n)&&xH n r
def yV (n:Nat) (ps:PS):Bool:=r9 n ps.tmps&&xH n ps.objs
def yH (n:Nat):List Nat->Bool
 |[]=>false| m::r=>nqb m n || yH n r
def nm0 (l:List Nat):PV->Bool
 |.agg _=>false| .tup _=>false| .fn _ _=>false| .ptr m _=>yH m l| .aptr m _ _ _=>yH m l| .osl m _ _ _=>yH m l| .mpv m=>yH m l| _=>true
def nm1 (l:List Nat):PV->Bool
 |.agg cs=>yT (nm0 l) cs| .tup cs=>yT (nm0 l) cs| .fn _ cs=>yT (nm0 l) cs| v=>nm0 l v
def nmIn (l:List Nat):PV->Bool
 |.agg cs=>yT (nm1 l) cs| .tup cs=>yT (nm1 l) cs| .fn _ cs=>yT (nm1 l) cs| v=>nm0 l v
def uN:List PV->Nat->List PV->List PV
 |c::cs,0,v::vs=>v::uN cs 0 vs| cs,0,[]=>cs| [],_,_=>[]| c::cs,n+1,vs=>c::uN cs n vs
structure Br (b:Unit->Bool) (A B:Unit->Prop):Prop where
 t:b ()=true->A ()
 f:b ()=false->B ()
structure InI64 (z:Unit->Int):Prop where
 lo:-9223372036854775808<=z ()
 hi:z ()<=9223372036854775807
structure Nn (b:Unit->Int):Prop where
 h:0<=b ()
structure Nz (b:Unit->Int):Prop where
 h:b ()≠0
structure Rng (k:Unit->Int) (len:Unit->Nat):Prop where
 lo:0<=k ()
 hi:k ()<(len ():Int)
structure IdxOk (n:Nat) (els:Unit->List (List D)) (k:Unit->Int) (K:List PV->Prop):Prop where
 h:0<=k ()/\∃ c:List PV,yT qS c=true/\c.length=n/\(els ())[(k ()).toNat]?=some (xD c)/\K c
structure ElOk (n:Nat) (els:Unit->List (List D)) (i:Unit->Nat) (K:List PV->Prop):Prop where
 h:∃ c:List PV,yT qS c=true/\c.length=n/\(els ())[i ()]?=some (xD c)/\K c
structure SlOk (l h:Unit->Int) (len:Unit->Nat):Prop where
 lo:0<=l ()
 mid:l ()<=h ()
 hi:h ()<=(len ():Int)
structure SlNe (l h:Unit->Int):Prop where
 lt:l ()<h ()
structure Wid (n:Nat) (els:Unit->List (List D)):Prop where
 h:∀ e,e∈els ()->e.length=n
structure Room (n:Unit->Int) (b:Nat):Prop where
 lo:0<=n ()
 hi:n ()*(b:Int)<=70368744177664
structure MkOk (x y:Unit->Int):Prop where
 lo:0<=x ()
 hi:x ()<=y ()
@[irreducible] def nx (k:IntKind) (n:Int):Int:=k.wrap n
@[irreducible] def iquo (a b:Int):Int:=a.tdiv b
@[irreducible] def irem (a b:Int):Int:=a.tmod b
@[irreducible] def ishl (k:IntKind) (a b:Int):Int:=k.wrap (a*2^(min b.toNat k.bits))
@[irreducible] def ishr (k:IntKind) (a b:Int):Int:=a.fdiv (2^(min b.toNat k.bits))
@[irreducible] def iand (k:IntKind) (a b:Int):Int:=k.wrap (BitVec.ofInt k.bits a &&& BitVec.ofInt k.bits b).toNat
@[irreducible] def ior (k:IntKind) (a b:Int):Int:=k.wrap (BitVec.ofInt k.bits a ||| BitVec.ofInt k.bits b).toNat
@[irreducible] def imax (a b:Int):Int:=if a<b then b else a
@[irreducible] def imin (a b:Int):Int:=if b<a then b else a
def brV (v:PV) (A B:Unit->Prop):Prop :=
 match v with
 |.tt=>A ()| .ff=>B ()| .bool b=>Br b A B| .nbool b=>Br b B A| _=>False
def Hp (k k':IntKind):Bool:=decide (k=k')
def arK (k:IntKind) (z:Unit->Int) (K:PV->Prop):Prop :=
 match k with
 |.i64=>InI64 z/\K (.int .i64 z)| k=>K (.int k (λ_=>nx k (z ())))
def G4 (op:BinOp) (k:IntKind) (a:Unit->Int) (k':IntKind) (b:Unit->Int) (K:PV->Prop):Prop :=
 match op with
 |.shl=>Nn b/\K (.int k (λ_=>ishl k (a ()) (b ())))| .shr=>Nn b/\K (.int k (λ_=>ishr k (a ()) (b ())))
 |op=>(match Hp k k' with
  |true=>(match op with
   |.add=>arK k (λ_=>a ()+b ()) K| .sub=>arK k (λ_=>a ()-b ()) K| .mul=>arK k (λ_=>a ()*b ()) K| .quo=>Nz b/\K (.int k (λ_=>nx k (iquo (a ()) (b ()))))| .rem=>Nz b/\K (.int k (λ_=>irem (a ()) (b ())))| .and=>K (.int k (λ_=>iand k (a ()) (b ())))| .or=>K (.int k (λ_=>ior k (a ()) (b ())))| .eql=>K (.bool (λ_=>decide (a ()=b ())))| .neq=>K (.nbool (λ_=>decide (a ()=b ())))| .lss=>K (.bool (λ_=>decide (a ()<b ())))| .leq=>K (.bool (λ_=>decide (a ()<=b ())))| .gtr=>K (.bool (λ_=>decide (b ()<a ())))| .geq=>K (.bool (λ_=>decide (b ()<=a ())))| _=>False)
  |false=>False)
def CP:PV->Option (Unit->Bool)
 |.tt=>some (λ_=>true)| .ff=>some (λ_=>false)| .bool b=>some b| _=>none
inductive Fld where
 |i (n:Unit->Int)
 |b (n:Unit->Bool)
def Fld.v:Fld->Value
 |.i n=>.int .i64 (n ())| .b n=>.bool (n ())
def Ch:PV->Option Fld
 |.int .i64 n=>some (.i n)
 |v=>match CP v with
  |some b=>some (.b b)| none=>none
def Zw:List PV->Option (List Fld)
 |[]=>some []
 |v::r=>match Ch v,Zw r with
  |some x,some l=>some (x::l)| _,_=>none
def oP:List Fld->List Value
 |[]=>[]| x::r=>x.v::oP r
def rdK (ty:Ty) (cs:List PV) (off:Nat) (K:PV->Prop):Prop :=
 (match ty.isNo with|true=>False|false=>(match nle (off+ty.cells) cs.length with|true=>K ((match ty.isA with|true=>.agg ((cs.drop off).take ty.cells)|false=>cs.getD off .any))|false=>False))
def VF (fs:List (Nat×Nat×Bool)):List (Nat×PV)->List PV->Option (List PV)
 |[],z=>some z
 |(i,v)::r,z=>match fs[i]? with
  |some (off,sz,_)=>(match nqb (yS v).length sz&&nle (off+sz) z.length&&j8 v with|true=>VF fs r (uN z off (yS v))|false=>none)| none=>none
def VG (n:Nat):List (Nat×PV)->List PV->Option (List PV)
 |[],z=>some z| (i,v)::r,z=>(match nqb (yS v).length n&&nle (i*n+n) z.length&&j8 v with|true=>VG n r (uN z (i*n) (yS v))|false=>none)
def sZ (n:Nat):List (Nat×PV)->List (List PV)->Option (List (List PV))
 |[],z=>some z| (i,v)::r,z=>(match nqb (yS v).length n&&nlt i z.length&&j8 v with|true=>sZ n r (z.set i (yS v))|false=>none)
def r8 (z:List PV):Nat->List (List PV)
 |0=>[]| n+1=>z::r8 z n
def BQ:List (List PV)->PV
 |[]=>.emp| x::r=>.sl (λ_=>zS (x::r))
def vY (e:Operand->PV):List (Nat×Operand)->List (Nat×PV)
 |[]=>[]| (i,o)::r=>(i,e o)::vY e r
def evs (e:Operand->PV):List Operand->List PV
 |[]=>[]| o::r=>e o::evs e r
def Pp (t:Ty) (v:PV) (K:PV->Prop):Prop :=
 match t with
 |.sli _ _ _=>(match v with
  |.sl els=>K (.int .i64 (λ_=>((els ()).length:Nat)))| .osl _ _ _ l=>K (.int .i64 (λ_=>(l ():Nat)))| .nil=>K (.int .i64 (λ_=>0))| .emp=>K (.int .i64 (λ_=>0))| _=>False)
 |_=>False
def lY (e:Operand->PV) (d:Unit->Int):Option Operand->Option (Unit->Int)
 |none=>some d
 |some o=>match e o with
  |.int _ n=>some n| _=>none
def jQ (P:Program) (t:TypeId):Bool :=
 match P.underlying t with
 |some (.struct _)=>true| some (.array _ _)=>true| _=>false
def Gw (P:Program) (i:TypeInfo) (fs:Array Field):Ty :=
 match i.zero with
 |some (.agg zs)=>if (∀ f,f∈fs.toList->0<P.cellsOf f.type)/\zs.size=i.size/\(∀ f,f∈fs.toList->(P.underlying f.type).isSome=true) then .st i.size (fs.toList.map λf=>(f.offset,P.cellsOf f.type,jQ P f.type)) (zs.toList.map wK) else .no| _=>.no
def Bh (P:Program) (i:TypeInfo) (e:TypeId):Ty :=
 if i.size≠1 then .no else
 match i.zero,P.info? e with
 |some (.slice none 0 0),some j=>match j.zero with
  |some z=>if z.cells.size=j.size/\0<j.size/\0<j.bytes then .sli j.size j.bytes (z.cells.toList.map wK) else .no| none=>.no
 |_,_=>.no
def BH (P:Program) (i:TypeInfo) (len:Nat) (e:TypeId):Ty :=
 match i.zero with
 |some (.agg zs)=>if zs.size=i.size/\i.size=len*P.cellsOf e/\1<len/\0<P.cellsOf e/\(P.underlying e).isSome=true then .arr len (P.cellsOf e) (jQ P e) (zs.toList.map wK) else .no| _=>.no
def Gx (i:TypeInfo) (d:TypeDesc):Ty :=
 match i.zero with
 |some zv=>if i.size=1 then (match d,zv with
  |.int k,.int k' n=>if k=k' then .sc (.int k (λ_=>n)) else .no| .bool,.bool false=>.sc .ff| .func _ _ _,.nilFunc=>.sc .nilf| .pointer _,.pointer none=>.sc .nilp| .map _ _,.map none=>.sc .any| .string,.string s=>.sc (.str (λ_=>s))| _,_=>.no) else .no
 |none=>.no
def w7 (P:Program) (t:TypeId):Ty :=
 match P.info? t,P.underlying t with
 |some i,some (.struct fs)=>Gw P i fs| some i,some (.slice e)=>Bh P i e| some i,some (.array len e)=>BH P i len e| some i,some d=>Gx i d| _,_=>.no
end Go.Proofs.YtaeaffgjdcigoaaGreat
