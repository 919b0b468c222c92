/- A part of the proof: PmA. -/
import Derived.Orders
import Derived.WalkKit
import Derived.WalkSpells
import Derived.Deep.AppendSrc
import Derived.Laws.MakeOwn
set_option linter.all false
namespace Go.Proofs.YtboocdbmnfjomaaGreat
open Go
theorem oM {p:Prop}(h:p:=by omega):p:=h
def yS:=@Bool.and_eq_true
def Vw:=@Bool.or_eq_true
def wJ:=@List.mem_cons_of_mem
def rF:=@Option.some.injEq
def wZ:=@List.mem_cons_self
def t9:=@Nat.add_zero
def d5:=@List.length_cons
def Pz:=@List.getD_cons_succ
def Vq:=@List.cons_append
def Vp:=@Nat.zero_mul
def uU:=@Nat.mul_le_mul_right
def yR:=@List.mem_cons
def kP:=@Nat.mod_eq_of_lt
def wK:=@List.getD_eq_getElem?_getD
def cO:=@List.getElem?_append_right
def vV:=@Nat.le_trans
def jJ:=@Nat.lt_of_lt_of_le
def yX:=@Nat.le_refl
def vF:=@Nat.zero_add
def Tp:=@List.getD_cons_zero
def uF:=@Nat.mod_lt
def xK:=@Nat.zero_le
def p5:=@List.mem_of_mem_take
def F4:=@List.mem_of_mem_drop
def ZF:=@Nat.sub_self
def aB:=@List.getElem?_append_left
def jR:=@Nat.add_mul
def j3:=@List.map_cons
def Vs:=@Bool.not_eq_true'
def Vr:=@List.nodup_cons
def w6:=@List.mem_append
def cM:=@List.mem_singleton
def jQ:=@List.map_append
def iR:=@List.nodup_append
def y9:=@List.mem_map
def rW:=@List.getElem?_eq_none
def cL:=@List.length_set
def ZE:=@List.mem_append_left
def nQ:=@List.mem_append_right
def nP:=@Nat.add_assoc
def vH:=@List.getElem?_map
def bX:=@Option.map_eq_some_iff
def F3:=@Prod.mk.injEq
def z8:=@List.mem_of_getElem?
def nO:=@Option.isSome_iff_exists
def F2:=@Array.getD_eq_getD_getElem?
def To:=@List.mem_or_eq_of_mem_set
def ZD:=@Nat.mul_one
def He:=@Array.getElem?_eq_getElem
def Tn:=@List.eq_of_mem_replicate
def FZ:=@List.length_replicate
def YP:=@Nat.add_comm
def vE:=@List.length_append
def u5:=@List.getElem?_take_of_lt
def vG:=@List.length_take
def mI:=@List.length_drop
def Sp:=@Nat.min_eq_left
def cK:=@List.getElem?_drop
def ZC:=@Nat.div_lt_iff_lt_mul
def Hd:=@Nat.div_eq_of_lt
def gX:=@List.eq_nil_of_length_eq_zero
def Tm:=@List.mem_iff_getElem?
def jI:=@Nat.mul_comm
def FY:=@Array.size_append
def Hc:=@List.size_toArray
def v5:=@List.drop_zero
def ZB:=@Option.getD_some
def kO:=@Nat.lt_or_ge
def gI:=@Nat.mul_assoc
def So:=@List.nil_append
def uT:=@List.append_nil
def rV:=@List.getElem?_cons_zero
def aA:=@List.getElem?_cons_succ
def YO:=@List.all_cons
def FW:=@List.take_succ_cons
def gH:=@List.all_eq_true
def uZ:=@List.getElem?_eq_getElem
def pZ:=@List.mem_range
def rU:=@Bool.false_or
def w5:=@List.drop_length
def wI:=@List.getElem?_eq_some_iff
def YN:=@List.drop_eq_getElem_cons
def yW:=@List.take_of_length_le
def rT:=@Bool.eq_iff_iff
def UT:=@List.take_append_drop
def rS:=@List.take_add_one
def YM:=@List.append_assoc
def kN:=@Int.toNat_natCast
def UR:=@List.map_take
def FV:=@List.map_drop
def ZA:=@UInt32.toNat_inj
def dZ:=@List.length_nil
def xQ:=@Nat.lt_of_le_of_lt
def Sn:=@Int.fdiv_eq_ediv_of_nonneg
def UQ:=@List.map_nil
def Vo:=@Nat.mod_add_div
def uL:=@Nat.pow_succ
def kV:=@Nat.mul_add
def FU:=@Nat.mul_le_mul
def UP:=@Nat.or_lt_two_pow
def Yl:=@Nat.mul_lt_mul''
def bI:=@Nat.pow_lt_pow_right
def j4:=@Nat.pow_add
def Kq:=@Nat.pow_pos
def gM:=@Nat.lt_trans
def mD:=@Nat.eq_zero_or_pos
def d7:=@Nat.pow_le_pow_right
def eW:=@Nat.two_pow_pos
def NR:=@Nat.add_mul_div_left
def Sw:=@Nat.add_mul_mod_self_left
def eV:=@List.drop_of_length_le
def mC:=@Nat.le_of_lt
def eU:=@Nat.pow_mul
def wL:=@Nat.mul_le_mul_left
def eT:=@List.drop_drop
def Sv:=@Nat.le_mul_of_pos_left
def eS:=@Nat.mul_lt_mul_of_pos_right
def Yk:=@Nat.mul_succ
def GB:=@Nat.lt_succ_self
def rD:=@Nat.pos_of_ne_zero
def yU:=@Bool.true_and
def Kp:=@List.length_eq_zero_iff
def Ko:=@Nat.gcd_dvd_right
def eR:=@Nat.div_le_self
def Yj:=@Nat.mul_ne_zero
def Su:=@Rat.sub_eq_add_neg
def rB:=@Int.natCast_nonneg
def s9:=@Bool.false_and
def nT:=@Rat.divInt_ofNat
def Yi:=@List.pairwise_cons
def u9:=@Option.some.inj
def yN:=@List.length_map
def v6:=@List.take_length
def Kn:=@List.length_reverse
def Kl:=@Rat.mul_nonneg
def nS:=@Rat.div_def
def NQ:=@Rat.le_of_lt
def eP:=@List.tail_drop
def nR:=@List.range_succ
def Vv:=@List.flatMap_append
def Kk:=@List.flatMap_cons
def Kj:=@List.length_range
def Ki:=@List.map_map
def Kh:=@Classical.byContradiction
def St:=@Rat.le_refl
def bH:=@List.getElem?_set
def GA:=@Rat.neg_zero
def Gz:=@Rat.zero_mul
def Ss:=@Rat.mul_zero
def Sr:=@Rat.add_zero
def Vu:=@List.ext_getElem?
def NP:=@List.getElem?_set_ne
def Kg:=@List.getElem?_replicate
def Sq:=@Nat.lt_succ_of_lt
def NO:=@List.mem_map_of_mem
def nqb (m n:Nat):Bool:=m == n
def nle (m n:Nat):Bool:=(m-n) == 0
def nlt (m n:Nat):Bool:=(m+1-n) == 0
@[simp] theorem nqb_iff {m n:Nat}:(nqb m n=true)=(m=n):=by simp[nqb]
@[simp] theorem nle_iff {m n:Nat}:(nle m n=true)=(m<=n):=by simp[nle];omega
@[simp] theorem nlt_iff {m n:Nat}:(nlt m n=true)=(m<n):=by simp[nlt];omega
theorem y8 {m n:Nat}(h:nqb m n=true):m=n:=by simpa using h
theorem m7 {m n:Nat}(h:nle m n=true):m<=n:=by simpa using h
theorem m6 {m n:Nat}(h:nlt m n=true):m<n:=by simpa using h
@[simp] theorem nqb_self (n:Nat):nqb n n=true:=by simp
inductive D where
 |int (k:IntKind) (n:Int)
 |bool (b:Bool)
 |str (s:ByteArray)
 |sl (els:List (List D))
 |any
inductive PV where
 |int (k:IntKind) (n:Unit->Int)
 |tt
 |ff
 |bool (b:Unit->Bool)
 |nbool (b:Unit->Bool)
 |str (s:Unit->ByteArray)
 |nil
 |sl (els:Unit->List (List D))
 |agg (cs:List PV)
 |tup (vs:List PV)
 |ptr (n off:Nat)
 |aptr (n s:Nat) (i:Unit->Nat) (off:Nat)
 |dptr (cs:List PV) (off:Nat)
 |osl (n s:Nat) (o len:Unit->Nat)
 |fn (f:FuncId) (caps:List PV)
 |nilf
 |nilp
 |mpv (n:Nat)
 |emp
 |any
instance:Inhabited PV:=⟨.any⟩
inductive Obj' where
 |box (cs:List PV)
 |arr (s:Nat) (els:Unit->List (List D))
 |log (s:Nat) (els:Unit->List (List D))
 |lent (s:Nat) (els:Unit->List (List D))
 |mat (s:Nat) (rows:Unit->List (List (List D))) (hs:List (PV×(Unit->Nat)))
 |mp (t:Nat) (ks:Unit->List Int)
structure PS where
 tmps:List (Nat×PV)
 objs:List (Nat×Obj')
inductive Ty where
 |sc (z:PV)
 |st (n:Nat) (fs:List (Nat×Nat×Bool)) (z:List PV)
 |sli (n b:Nat) (z:List PV)
 |arr (len n:Nat) (ag:Bool) (z:List PV)
 |no
def Ty.cells:Ty->Nat
 |.sc _=>1| .sli _ _ _=>1| .st n _ _=>n| .arr len n _ _=>len*n| .no=>0
def Ty.isA:Ty->Bool
 |.st _ _ _=>true| .arr _ _ _ _=>true| _=>false
def Ty.isNo:Ty->Bool
 |.no=>true| _=>false
def Ty.zero:Ty->List PV
 |.sc z=>[z]| .sli _ _ _=>[.nil]| .st _ _ z=>z| .arr _ _ _ z=>z| .no=>[]
def zD (l:List (Nat×PV)) (t:Nat):PV :=
 match l with
 |[]=>.any| (u,v)::r=>(match nqb u t with|true=>v|false=>zD r t)
def v4 (l:List (Nat×PV)) (t:Nat) (x:PV):List (Nat×PV) :=
 match l with
 |[]=>[(t,x)]| (u,v)::r=>(match nqb u t with|true=>(t,x)::r|false=>(u,v)::v4 r t x)
def yK (l:List (Nat×Obj')) (n:Nat):Option Obj' :=
 match l with
 |[]=>none| (u,v)::r=>(match nqb u n with|true=>some v|false=>yK r n)
def setO (l:List (Nat×Obj')) (n:Nat) (x:Obj'):List (Nat×Obj') :=
 match l with
 |[]=>[(n,x)]| (u,v)::r=>(match nqb u n with|true=>(n,x)::r|false=>(u,v)::setO r n x)
def xP (l:List (Nat×Obj')) (n:Nat):List (Nat×Obj') :=
 match l with
 |[]=>[]| (u,v)::r=>(match nqb u n with|true=>xP r n|false=>(u,v)::xP r n)
def put (ps:PS) (d:Option Nat) (v:PV):PS :=
 match d with
 |none=>ps| some d=>⟨v4 ps.tmps d v,ps.objs⟩
def wT:Value->PV
 |.int k n=>.int k (λ_=>n)| .bool true=>.tt| .bool false=>.ff| .string s=>.str (λ_=>s)| .slice none 0 0=>.nil| .nilFunc=>.nilf| .pointer none=>.nilp| _=>.any
def ev (τ:Nat->PV):Operand->PV
 |.tmp t=>τ t| .const v=>wT v| .func f=>.fn f []| .global _=>.any
def yZ:PV->List PV
 |.agg cs=>cs| v=>[v]
def y4 (f:PV->Bool):List PV->Bool
 |[]=>true| v::r=>f v&&y4 f r
def w8 (f:PV->PV):List PV->List PV
 |[]=>[]| v::r=>f v::w8 f r
def rf0 (n:Nat):PV->Bool
 |.agg _=>false| .tup _=>false| .fn _ _=>false| .ptr m _=>!(nqb m n)| .aptr m _ _ _=>!(nqb m n)| .osl m _ _ _=>!(nqb m n)| .mpv m=>!(nqb m n)| _=>true
def rf1 (n:Nat):PV->Bool
 |.agg cs=>y4 (rf0 n) cs| .tup cs=>y4 (rf0 n) cs| .fn _ cs=>y4 (rf0 n) cs| v=>rf0 n v
def xN (n:Nat):PV->Bool
 |.agg cs=>y4 (rf1 n) cs| .tup cs=>y4 (rf1 n) cs| .fn _ cs=>y4 (rf1 n) cs| v=>rf0 n v
def wM (n:Nat):List PV->Bool:=y4 (xN n)
def qV:PV->Bool
 |.int _ _=>true| .tt=>true| .ff=>true| .bool _=>true| .nbool _=>true| .str _=>true| .sl _=>true| .any=>true| _=>false
def iU:PV->Bool
 |.nil=>true| v=>qV v
def Zs:PV->Bool
 |.nil=>true| .any=>false| v=>qV v
def tW:PV->Bool
 |.agg _=>false| .tup _=>false| .any=>false| _=>true
def fF:PV->Bool
 |.agg _=>true| v=>tW v
def nK:List (List PV)->Bool
 |[]=>true| v::r=>y4 Zs v&&nK r
def WZ:PV->PV
 |.nil=>.sl (λ_=>[])| v=>v
def toD:PV->D
 |.int k n=>.int k (n ())| .tt=>.bool true| .ff=>.bool false| .bool b=>.bool (b ())| .nbool b=>.bool (!(b ()))| .str s=>.str (s ())| .nil=>.sl []| .sl els=>.sl (els ())| _=>.any
def xC:List PV->List D
 |[]=>[]| v::r=>toD v::xC r
def zK:List (List PV)->List (List D)
 |[]=>[]| v::r=>xC v::zK r
def VC:Obj'->Option (Nat×(Unit->List (List D)))
 |.arr s els=>some (s,els)| .log s els=>some (s,els)| .lent s els=>some (s,els)| .box _=>none| .mat _ _ _=>none| .mp _ _=>none
def fz0 (n:Nat) (o:Obj'):PV->PV
 |.agg _=>.any| .tup _=>.any| .fn _ _=>.any| .ptr m off=>(match nqb m n with|true=>(match o with|.box cs=>.dptr (w8 WZ cs) off|_=>.any)|false=>.ptr m off)| .aptr m s i off=>(match nqb m n with|true=>.any|false=>.aptr m s i off)| .osl m s i len=>(match nqb m n with|true=>(match VC o with|some (s',els)=>(match nqb s s' with|true=>.sl (λ_=>((els ()).drop (i ())).take (len ()))|false=>.any)|none=>.any)|false=>.osl m s i len)| .mpv m=>(match nqb m n with|true=>.any|false=>.mpv m)| v=>v
def fz1 (n:Nat) (o:Obj'):PV->PV
 |.agg cs=>.agg (w8 (fz0 n o) cs)| .tup cs=>.tup (w8 (fz0 n o) cs)| .fn f cs=>.fn f (w8 (fz0 n o) cs)| v=>fz0 n o v
def frz (n:Nat) (o:Obj'):PV->PV
 |.agg cs=>.agg (w8 (fz1 n o) cs)| .tup cs=>.tup (w8 (fz1 n o) cs)| .fn f cs=>.fn f (w8 (fz1 n o) cs)| v=>fz0 n o v
def sc0 (n:Nat):PV->PV
 |.agg _=>.any| .tup _=>.any| .fn _ _=>.any| .ptr m off=>(match nqb m n with|true=>.any|false=>.ptr m off)| .aptr m s i off=>(match nqb m n with|true=>.any|false=>.aptr m s i off)| .osl m s i len=>(match nqb m n with|true=>.any|false=>.osl m s i len)| .mpv m=>(match nqb m n with|true=>.any|false=>.mpv m)| v=>v
def sc1 (n:Nat):PV->PV
 |.agg cs=>.agg (w8 (sc0 n) cs)| .tup cs=>.tup (w8 (sc0 n) cs)| .fn f cs=>.fn f (w8 (sc0 n) cs)| v=>sc0 n v
def scr (n:Nat):PV->PV
 |.agg cs=>.agg (w8 (sc1 n) cs)| .tup cs=>.tup (w8 (sc1 n) cs)| .fn f cs=>.fn f (w8 (sc1 n) cs)| v=>sc0 n v
def wF (f:PV->PV):List (Nat×PV)->List (Nat×PV)
 |[]=>[]| (t,v)::r=>(t,f v)::wF f r
def gQ (f:PV->PV):List (PV×(Unit->Nat))->List (PV×(Unit->Nat))
 |[]=>[]| (v,k)::r=>(f v,k)::gQ f r
def xB (f:PV->PV):List (Nat×Obj')->List (Nat×Obj')
 |[]=>[]| (n,.box cs)::r=>(n,.box (w8 f cs))::xB f r| (n,.arr s els)::r=>(n,.arr s els)::xB f r| (n,.log s els)::r=>(n,.log s els)::xB f r| (n,.lent s els)::r=>(n,.lent s els)::xB f r| (n,.mat s rows hs)::r=>(n,.mat s rows (gQ f hs))::xB f r| (n,.mp t ks)::r=>(n,.mp t ks)::xB f r
def pI (n:Nat):List (Nat×PV)->Bool
 |[]=>true| (_,v)::r=>xN n v&&pI n r
def sQ (n:Nat):List (PV×(Unit->Nat))->Bool
 |[]=>true| (v,_)::r=>xN n v&&sQ n r
def xO (n:Nat):List (Nat×Obj')->Bool
 |[]=>nlt n 1000000| (m,.box cs)::r=>!(nqb m n)&&wM n cs&&xO n r| (m,.arr _ _)::r=>!(nqb m n)&&xO n r| (m,.log _ _)::r=>!(nqb m n)&&xO n r| (m,.lent _ _)::r=>!(nqb m n)&&xO n r| (m,.mat _ _ hs)::r=>!(nqb m n)&&sQ n hs&&xO n r| (m,.mp _ _)::r=>!(nqb m n)&&xO n r
def yO (n:Nat) (ps:PS):Bool:=pI n ps.tmps&&xO n ps.objs
def yJ (n:Nat):List Nat->Bool
 |[]=>false| m::r=>nqb m n || yJ n r
def nm0 (l:List Nat):PV->Bool
 |.agg _=>false| .tup _=>false| .fn _ _=>false| .ptr m _=>yJ m l| .aptr m _ _ _=>yJ m l| .osl m _ _ _=>yJ m l| .mpv m=>yJ m l| _=>true
def nm1 (l:List Nat):PV->Bool
 |.agg cs=>y4 (nm0 l) cs| .tup cs=>y4 (nm0 l) cs| .fn _ cs=>y4 (nm0 l) cs| v=>nm0 l v
def nmIn (l:List Nat):PV->Bool
 |.agg cs=>y4 (nm1 l) cs| .tup cs=>y4 (nm1 l) cs| .fn _ cs=>y4 (nm1 l) cs| v=>nm0 l v
def uY:List PV->Nat->List PV->List PV
 |c::cs,0,v::vs=>v::uY cs 0 vs| cs,0,[]=>cs| [],_,_=>[]| c::cs,n+1,vs=>c::uY cs n vs
structure Br (b:Unit->Bool) (A B:Unit->Prop):Prop where
 t:b ()=true->A ()
 f:b ()=false->B ()
structure InI64 (z:Unit->Int):Prop where
 lo:-9223372036854775808<=z ()
 hi:z ()<=9223372036854775807
structure Nn (b:Unit->Int):Prop where
 h:0<=b ()
structure Nz (b:Unit->Int):Prop where
 h:b ()≠0
structure Rng (k:Unit->Int) (len:Unit->Nat):Prop where
 lo:0<=k ()
 hi:k ()<(len ():Int)
structure IdxOk (n:Nat) (els:Unit->List (List D)) (k:Unit->Int) (K:List PV->Prop):Prop where
 h:0<=k ()/\∃ c:List PV,y4 qV c=true/\c.length=n/\(els ())[(k ()).toNat]?=some (xC c)/\K c
structure ElOk (n:Nat) (els:Unit->List (List D)) (i:Unit->Nat) (K:List PV->Prop):Prop where
 h:∃ c:List PV,y4 qV c=true/\c.length=n/\(els ())[i ()]?=some (xC c)/\K c
structure SlOk (l h:Unit->Int) (len:Unit->Nat):Prop where
 lo:0<=l ()
 mid:l ()<=h ()
 hi:h ()<=(len ():Int)
structure SlT (l h:Unit->Int) (A B:Prop):Prop where
 h:((l ()<h ()\/l ()=0)/\A)\/(l ()=h ()/\B)
structure Wid (n:Nat) (els:Unit->List (List D)):Prop where
 h:∀ e,e∈els ()->e.length=n
structure Room (n:Unit->Int) (b:Nat):Prop where
 lo:0<=n ()
 hi:n ()*(b:Int)<=70368744177664
structure MkOk (x y:Unit->Int):Prop where
 lo:0<=x ()
 hi:x ()<=y ()
@[irreducible] def nx (k:IntKind) (n:Int):Int:=k.wrap n
@[irreducible] def iquo (a b:Int):Int:=a.tdiv b
@[irreducible] def irem (a b:Int):Int:=a.tmod b
@[irreducible] def ishl (k:IntKind) (a b:Int):Int:=k.wrap (a*2^(min b.toNat k.bits))
@[irreducible] def ishr (k:IntKind) (a b:Int):Int:=a.fdiv (2^(min b.toNat k.bits))
@[irreducible] def iand (k:IntKind) (a b:Int):Int:=k.wrap (BitVec.ofInt k.bits a &&& BitVec.ofInt k.bits b).toNat
@[irreducible] def ior (k:IntKind) (a b:Int):Int:=k.wrap (BitVec.ofInt k.bits a ||| BitVec.ofInt k.bits b).toNat
@[irreducible] def imax (a b:Int):Int:=if a<b then b else a
@[irreducible] def imin (a b:Int):Int:=if b<a then b else a
def brV (v:PV) (A B:Unit->Prop):Prop :=
 match v with
 |.tt=>A ()| .ff=>B ()| .bool b=>Br b A B| .nbool b=>Br b B A| _=>False
def GS (k k':IntKind):Bool:=decide (k=k')
def arK (k:IntKind) (z:Unit->Int) (K:PV->Prop):Prop :=
 match k with
 |.i64=>InI64 z/\K (.int .i64 z)| k=>K (.int k (λ_=>nx k (z ())))
def DM (op:BinOp) (k:IntKind) (a:Unit->Int) (k':IntKind) (b:Unit->Int) (K:PV->Prop):Prop :=
 match op with
 |.shl=>Nn b/\K (.int k (λ_=>ishl k (a ()) (b ())))| .shr=>Nn b/\K (.int k (λ_=>ishr k (a ()) (b ())))
 |op=>(match GS k k' with
  |true=>(match op with
   |.add=>arK k (λ_=>a ()+b ()) K| .sub=>arK k (λ_=>a ()-b ()) K| .mul=>arK k (λ_=>a ()*b ()) K| .quo=>Nz b/\K (.int k (λ_=>nx k (iquo (a ()) (b ()))))| .rem=>Nz b/\K (.int k (λ_=>irem (a ()) (b ())))| .and=>K (.int k (λ_=>iand k (a ()) (b ())))| .or=>K (.int k (λ_=>ior k (a ()) (b ())))| .eql=>K (.bool (λ_=>decide (a ()=b ())))| .neq=>K (.nbool (λ_=>decide (a ()=b ())))| .lss=>K (.bool (λ_=>decide (a ()<b ())))| .leq=>K (.bool (λ_=>decide (a ()<=b ())))| .gtr=>K (.bool (λ_=>decide (b ()<a ())))| .geq=>K (.bool (λ_=>decide (b ()<=a ())))| _=>False)
  |false=>False)
def A7:PV->Option (Unit->Bool)
 |.tt=>some (λ_=>true)| .ff=>some (λ_=>false)| .bool b=>some b| _=>none
inductive Fld where
 |i (n:Unit->Int)
 |b (n:Unit->Bool)
def Fld.v:Fld->Value
 |.i n=>.int .i64 (n ())| .b n=>.bool (n ())
def Av:PV->Option Fld
 |.int .i64 n=>some (.i n)
 |v=>match A7 v with
  |some b=>some (.b b)| none=>none
def Z7:List PV->Option (List Fld)
 |[]=>some []
 |v::r=>match Av v,Z7 r with
  |some x,some l=>some (x::l)| _,_=>none
def Zn:List Fld->List Value
 |[]=>[]| x::r=>x.v::Zn r
def rdK (ty:Ty) (cs:List PV) (off:Nat) (K:PV->Prop):Prop :=
 (match ty.isNo with|true=>False|false=>(match nle (off+ty.cells) cs.length with|true=>K ((match ty.isA with|true=>.agg ((cs.drop off).take ty.cells)|false=>cs.getD off .any))|false=>False))
def WI (fs:List (Nat×Nat×Bool)):List (Nat×PV)->List PV->Option (List PV)
 |[],z=>some z
 |(i,v)::r,z=>match fs[i]? with
  |some (off,sz,_)=>(match nqb (yZ v).length sz&&nle (off+sz) z.length&&fF v with|true=>WI fs r (uY z off (yZ v))|false=>none)| none=>none
def UG (n:Nat):List (Nat×PV)->List PV->Option (List PV)
 |[],z=>some z| (i,v)::r,z=>(match nqb (yZ v).length n&&nle (i*n+n) z.length&&fF v with|true=>UG n r (uY z (i*n) (yZ v))|false=>none)
def sZ (n:Nat):List (Nat×PV)->List (List PV)->Option (List (List PV))
 |[],z=>some z| (i,v)::r,z=>(match nqb (yZ v).length n&&nlt i z.length&&fF v with|true=>sZ n r (z.set i (yZ v))|false=>none)
def rZ (z:List PV):Nat->List (List PV)
 |0=>[]| n+1=>z::rZ z n
def Ri:List (List PV)->PV
 |[]=>.emp| x::r=>.sl (λ_=>zK (x::r))
def vJ (e:Operand->PV):List (Nat×Operand)->List (Nat×PV)
 |[]=>[]| (i,o)::r=>(i,e o)::vJ e r
def evs (e:Operand->PV):List Operand->List PV
 |[]=>[]| o::r=>e o::evs e r
def M0 (t:Ty) (v:PV) (K:PV->Prop):Prop :=
 match t with
 |.sli _ _ _=>(match v with
  |.sl els=>K (.int .i64 (λ_=>((els ()).length:Nat)))| .osl _ _ _ l=>K (.int .i64 (λ_=>(l ():Nat)))| .nil=>K (.int .i64 (λ_=>0))| .emp=>K (.int .i64 (λ_=>0))| _=>False)
 |_=>False
def i7 (e:Operand->PV) (d:Unit->Int):Option Operand->Option (Unit->Int)
 |none=>some d
 |some o=>match e o with
  |.int _ n=>some n| _=>none
def gJ (P:Program) (t:TypeId):Bool :=
 match P.underlying t with
 |some (.struct _)=>true| some (.array _ _)=>true| _=>false
def Db (P:Program) (i:TypeInfo) (fs:Array Field):Ty :=
 match i.zero with
 |some (.agg zs)=>if (∀ f,f∈fs.toList->0<P.cellsOf f.type)/\zs.size=i.size/\(∀ f,f∈fs.toList->(P.underlying f.type).isSome=true) then .st i.size (fs.toList.map λf=>(f.offset,P.cellsOf f.type,gJ P f.type)) (zs.toList.map wT) else .no| _=>.no
def SL (P:Program) (i:TypeInfo) (e:TypeId):Ty :=
 if i.size≠1 then .no else
 match i.zero,P.info? e with
 |some (.slice none 0 0),some j=>match j.zero with
  |some z=>if z.cells.size=j.size/\0<j.size/\0<j.bytes then .sli j.size j.bytes (z.cells.toList.map wT) else .no| none=>.no
 |_,_=>.no
def Rb (P:Program) (i:TypeInfo) (len:Nat) (e:TypeId):Ty :=
 match i.zero with
 |some (.agg zs)=>if zs.size=i.size/\i.size=len*P.cellsOf e/\1<len/\0<P.cellsOf e/\(P.underlying e).isSome=true then .arr len (P.cellsOf e) (gJ P e) (zs.toList.map wT) else .no| _=>.no
def Dc (i:TypeInfo) (d:TypeDesc):Ty :=
 match i.zero with
 |some zv=>if i.size=1 then (match d,zv with
  |.int k,.int k' n=>if k=k' then .sc (.int k (λ_=>n)) else .no| .bool,.bool false=>.sc .ff| .func _ _ _,.nilFunc=>.sc .nilf| .pointer _,.pointer none=>.sc .nilp| .map _ _,.map none=>.sc .any| .string,.string s=>.sc (.str (λ_=>s))| _,_=>.no) else .no
 |none=>.no
def vW (P:Program) (t:TypeId):Ty :=
 match P.info? t,P.underlying t with
 |some i,some (.struct fs)=>Db P i fs| some i,some (.slice e)=>SL P i e| some i,some (.array len e)=>Rb P i len e| some i,some d=>Dc i d| _,_=>.no
end Go.Proofs.YtboocdbmnfjomaaGreat
