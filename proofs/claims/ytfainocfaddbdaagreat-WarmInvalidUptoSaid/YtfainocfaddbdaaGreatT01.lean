/- A part of the proof: PmA. -/
import Derived.Orders
import Derived.WalkKit
import Derived.WalkSpells
import Derived.Deep.AppendSrc
import Derived.Laws.MakeOwn
set_option linter.all false
namespace Go.Proofs.YtfainocfaddbdaaGreat
open Go
def nqb (m n:Nat):Bool:=m == n
def nle (m n:Nat):Bool:=(m-n) == 0
def nlt (m n:Nat):Bool:=(m+1-n) == 0
@[simp] theorem nqb_iff {m n:Nat}:(nqb m n=true)=(m=n):=by simp[nqb]
@[simp] theorem nle_iff {m n:Nat}:(nle m n=true)=(m<=n):=by simp[nle];omega
@[simp] theorem nlt_iff {m n:Nat}:(nlt m n=true)=(m<n):=by simp[nlt];omega
theorem yC {m n:Nat}(h:nqb m n=true):m=n:=by simpa using h
theorem bO {m n:Nat}(h:nle m n=true):m<=n:=by simpa using h
theorem bN {m n:Nat}(h:nlt m n=true):m<n:=by simpa using h
@[simp] theorem nqb_self (n:Nat):nqb n n=true:=by simp
inductive D where
 |int (k:IntKind) (n:Int)
 |bool (b:Bool)
 |str (s:ByteArray)
 |sl (els:List (List D))
 |any
inductive PV where
 |int (k:IntKind) (n:Unit->Int)
 |tt
 |ff
 |bool (b:Unit->Bool)
 |nbool (b:Unit->Bool)
 |str (s:Unit->ByteArray)
 |nil
 |sl (els:Unit->List (List D))
 |agg (cs:List PV)
 |tup (vs:List PV)
 |ptr (n off:Nat)
 |aptr (n s:Nat) (i:Unit->Nat) (off:Nat)
 |dptr (cs:List PV) (off:Nat)
 |osl (n s:Nat) (o len:Unit->Nat)
 |fn (f:FuncId) (caps:List PV)
 |nilf
 |nilp
 |emp
 |any
instance:Inhabited PV:=⟨.any⟩
inductive Obj' where
 |box (cs:List PV)
 |arr (s:Nat) (els:Unit->List (List D))
 |log (s:Nat) (els:Unit->List (List D))
 |lent (s:Nat) (els:Unit->List (List D))
 |mat (s:Nat) (rows:Unit->List (List (List D))) (hs:List (PV×(Unit->Nat)))
structure PS where
 tmps:List (Nat×PV)
 objs:List (Nat×Obj')
inductive Ty where
 |sc (z:PV)
 |st (n:Nat) (fs:List (Nat×Nat×Bool)) (z:List PV)
 |sli (n b:Nat) (z:List PV)
 |arr (len n:Nat) (ag:Bool) (z:List PV)
 |no
def Ty.cells:Ty->Nat
 |.sc _=>1| .sli _ _ _=>1| .st n _ _=>n| .arr len n _ _=>len*n| .no=>0
def Ty.isA:Ty->Bool
 |.st _ _ _=>true| .arr _ _ _ _=>true| _=>false
def Ty.isNo:Ty->Bool
 |.no=>true| _=>false
def Ty.zero:Ty->List PV
 |.sc z=>[z]| .sli _ _ _=>[.nil]| .st _ _ z=>z| .arr _ _ _ z=>z| .no=>[]
def zB (l:List (Nat×PV)) (t:Nat):PV :=
 match l with
 |[]=>.any| (u,v)::r=>(match nqb u t with|true=>v|false=>zB r t)
def w9 (l:List (Nat×PV)) (t:Nat) (x:PV):List (Nat×PV) :=
 match l with
 |[]=>[(t,x)]| (u,v)::r=>(match nqb u t with|true=>(t,x)::r|false=>(u,v)::w9 r t x)
def z7 (l:List (Nat×Obj')) (n:Nat):Option Obj' :=
 match l with
 |[]=>none| (u,v)::r=>(match nqb u n with|true=>some v|false=>z7 r n)
def setO (l:List (Nat×Obj')) (n:Nat) (x:Obj'):List (Nat×Obj') :=
 match l with
 |[]=>[(n,x)]| (u,v)::r=>(match nqb u n with|true=>(n,x)::r|false=>(u,v)::setO r n x)
def xC (l:List (Nat×Obj')) (n:Nat):List (Nat×Obj') :=
 match l with
 |[]=>[]| (u,v)::r=>(match nqb u n with|true=>xC r n|false=>(u,v)::xC r n)
def put (ps:PS) (d:Option Nat) (v:PV):PS :=
 match d with
 |none=>ps| some d=>⟨w9 ps.tmps d v,ps.objs⟩
def x8:Value->PV
 |.int k n=>.int k (fun _=>n)| .bool true=>.tt| .bool false=>.ff| .string s=>.str (fun _=>s)| .slice none 0 0=>.nil| .nilFunc=>.nilf| .pointer none=>.nilp| _=>.any
def ev (τ:Nat->PV):Operand->PV
 |.tmp t=>τ t| .const v=>x8 v| .func f=>.fn f []| .global _=>.any
def yF:PV->List PV
 |.agg cs=>cs| v=>[v]
def yN (f:PV->Bool):List PV->Bool
 |[]=>true| v::r=>f v&&yN f r
def x6 (f:PV->PV):List PV->List PV
 |[]=>[]| v::r=>f v::x6 f r
def rf0 (n:Nat):PV->Bool
 |.agg _=>false| .tup _=>false| .fn _ _=>false| .ptr m _=>!(nqb m n)| .aptr m _ _ _=>!(nqb m n)| .osl m _ _ _=>!(nqb m n)| _=>true
def rf1 (n:Nat):PV->Bool
 |.agg cs=>yN (rf0 n) cs| .tup cs=>yN (rf0 n) cs| .fn _ cs=>yN (rf0 n) cs| v=>rf0 n v
def y7 (n:Nat):PV->Bool
 |.agg cs=>yN (rf1 n) cs| .tup cs=>yN (rf1 n) cs| .fn _ cs=>yN (rf1 n) cs| v=>rf0 n v
def xT (n:Nat):List PV->Bool:=yN (y7 n)
def kQ:PV->Bool
 |.int _ _=>true| .tt=>true| .ff=>true| .bool _=>true| .nbool _=>true| .str _=>true| .sl _=>true| .any=>true| _=>false
def sJ:PV->Bool
 |.nil=>true| v=>kQ v
def p6:PV->Bool
 |.nil=>true| .any=>false| v=>kQ v
def cO:PV->Bool
 |.agg _=>false| .tup _=>false| .any=>false| _=>true
def qV:PV->Bool
 |.agg _=>true| v=>cO v
def c6:List (List PV)->Bool
 |[]=>true| v::r=>yN p6 v&&c6 r
def eB:PV->PV
 |.nil=>.sl (fun _=>[])| v=>v
def toD:PV->D
 |.int k n=>.int k (n ())| .tt=>.bool true| .ff=>.bool false| .bool b=>.bool (b ())| .nbool b=>.bool (!(b ()))| .str s=>.str (s ())| .nil=>.sl []| .sl els=>.sl (els ())| _=>.any
def xM:List PV->List D
 |[]=>[]| v::r=>toD v::xM r
def yV:List (List PV)->List (List D)
 |[]=>[]| v::r=>xM v::yV r
def eW:Obj'->Option (Nat×(Unit->List (List D)))
 |.arr s els=>some (s,els)| .log s els=>some (s,els)| .lent s els=>some (s,els)| .box _=>none| .mat _ _ _=>none
def fz0 (n:Nat) (o:Obj'):PV->PV
 |.agg _=>.any| .tup _=>.any| .fn _ _=>.any| .ptr m off=>(match nqb m n with|true=>(match o with|.box cs=>.dptr (x6 eB cs) off|_=>.any)|false=>.ptr m off)| .aptr m s i off=>(match nqb m n with|true=>.any|false=>.aptr m s i off)| .osl m s i len=>(match nqb m n with|true=>(match eW o with|some (s',els)=>(match nqb s s' with|true=>.sl (fun _=>((els ()).drop (i ())).take (len ()))|false=>.any)|none=>.any)|false=>.osl m s i len)| v=>v
def fz1 (n:Nat) (o:Obj'):PV->PV
 |.agg cs=>.agg (x6 (fz0 n o) cs)| .tup cs=>.tup (x6 (fz0 n o) cs)| .fn f cs=>.fn f (x6 (fz0 n o) cs)| v=>fz0 n o v
def frz (n:Nat) (o:Obj'):PV->PV
 |.agg cs=>.agg (x6 (fz1 n o) cs)| .tup cs=>.tup (x6 (fz1 n o) cs)| .fn f cs=>.fn f (x6 (fz1 n o) cs)| v=>fz0 n o v
def sc0 (n:Nat):PV->PV
 |.agg _=>.any| .tup _=>.any| .fn _ _=>.any| .ptr m off=>(match nqb m n with|true=>.any|false=>.ptr m off)| .aptr m s i off=>(match nqb m n with|true=>.any|false=>.aptr m s i off)| .osl m s i len=>(match nqb m n with|true=>.any|false=>.osl m s i len)| v=>v
def sc1 (n:Nat):PV->PV
 |.agg cs=>.agg (x6 (sc0 n) cs)| .tup cs=>.tup (x6 (sc0 n) cs)| .fn f cs=>.fn f (x6 (sc0 n) cs)| v=>sc0 n v
def scr (n:Nat):PV->PV
 |.agg cs=>.agg (x6 (sc1 n) cs)| .tup cs=>.tup (x6 (sc1 n) cs)| .fn f cs=>.fn f (x6 (sc1 n) cs)| v=>sc0 n v
def xY (f:PV->PV):List (Nat×PV)->List (Nat×PV)
 |[]=>[]| (t,v)::r=>(t,f v)::xY f r
def qH (f:PV->PV):List (PV×(Unit->Nat))->List (PV×(Unit->Nat))
 |[]=>[]| (v,k)::r=>(f v,k)::qH f r
def yS (f:PV->PV):List (Nat×Obj')->List (Nat×Obj')
 |[]=>[]| (n,.box cs)::r=>(n,.box (x6 f cs))::yS f r| (n,.arr s els)::r=>(n,.arr s els)::yS f r| (n,.log s els)::r=>(n,.log s els)::yS f r| (n,.lent s els)::r=>(n,.lent s els)::yS f r| (n,.mat s rows hs)::r=>(n,.mat s rows (qH f hs))::yS f r
def dN (n:Nat):List (Nat×PV)->Bool
 |[]=>true| (_,v)::r=>y7 n v&&dN n r
def fB (n:Nat):List (PV×(Unit->Nat))->Bool
 |[]=>true| (v,_)::r=>y7 n v&&fB n r
def xA (n:Nat):List (Nat×Obj')->Bool
 |[]=>nlt n 1000000| (m,.box cs)::r=>!(nqb m n)&&xT n cs&&xA n r| (m,.arr _ _)::r=>!(nqb m n)&&xA n r| (m,.log _ _)::r=>!(nqb m n)&&xA n r| (m,.lent _ _)::r=>!(nqb m n)&&xA n r| (m,.mat _ _ hs)::r=>!(nqb m n)&&fB n hs&&xA n r
def yE (n:Nat) (ps:PS):Bool:=dN n ps.tmps&&xA n ps.objs
def zY (n:Nat):List Nat->Bool
 |[]=>false| m::r=>nqb m n || zY n r
def nm0 (l:List Nat):PV->Bool
 |.agg _=>false| .tup _=>false| .fn _ _=>false| .ptr m _=>zY m l| .aptr m _ _ _=>zY m l| .osl m _ _ _=>zY m l| _=>true
def nm1 (l:List Nat):PV->Bool
 |.agg cs=>yN (nm0 l) cs| .tup cs=>yN (nm0 l) cs| .fn _ cs=>yN (nm0 l) cs| v=>nm0 l v
def nmIn (l:List Nat):PV->Bool
 |.agg cs=>yN (nm1 l) cs| .tup cs=>yN (nm1 l) cs| .fn _ cs=>yN (nm1 l) cs| v=>nm0 l v
def wZ:List PV->Nat->List PV->List PV
 |c::cs,0,v::vs=>v::wZ cs 0 vs| cs,0,[]=>cs| [],_,_=>[]| c::cs,n+1,vs=>c::wZ cs n vs
structure Br (b:Unit->Bool) (A B:Unit->Prop):Prop where
 t:b ()=true->A ()
 f:b ()=false->B ()
structure InI64 (z:Unit->Int):Prop where
 lo:-9223372036854775808<=z ()
 hi:z ()<=9223372036854775807
structure Nn (b:Unit->Int):Prop where
 h:0<=b ()
structure Nz (b:Unit->Int):Prop where
 h:b ()≠0
structure Rng (k:Unit->Int) (len:Unit->Nat):Prop where
 lo:0<=k ()
 hi:k ()<(len ():Int)
structure IdxOk (n:Nat) (els:Unit->List (List D)) (k:Unit->Int) (K:List PV->Prop):Prop where
 h:0<=k ()/\∃ c:List PV,yN kQ c=true/\c.length=n/\(els ())[(k ()).toNat]?=some (xM c)/\K c
structure ElOk (n:Nat) (els:Unit->List (List D)) (i:Unit->Nat) (K:List PV->Prop):Prop where
 h:∃ c:List PV,yN kQ c=true/\c.length=n/\(els ())[i ()]?=some (xM c)/\K c
structure SlOk (l h:Unit->Int) (len:Unit->Nat):Prop where
 lo:0<=l ()
 mid:l ()<=h ()
 hi:h ()<=(len ():Int)
structure SlNe (l h:Unit->Int):Prop where
 lt:l ()<h ()
structure Wid (n:Nat) (els:Unit->List (List D)):Prop where
 h:∀ e,e∈els ()->e.length=n
structure Room (n:Unit->Int) (b:Nat):Prop where
 lo:0<=n ()
 hi:n ()*(b:Int)<=70368744177664
structure MkOk (x y:Unit->Int):Prop where
 lo:0<=x ()
 hi:x ()<=y ()
@[irreducible] def nx (k:IntKind) (n:Int):Int:=k.wrap n
@[irreducible] def iquo (a b:Int):Int:=a.tdiv b
@[irreducible] def irem (a b:Int):Int:=a.tmod b
@[irreducible] def ishl (k:IntKind) (a b:Int):Int:=k.wrap (a*2^(min b.toNat k.bits))
@[irreducible] def ishr (k:IntKind) (a b:Int):Int:=a.fdiv (2^(min b.toNat k.bits))
@[irreducible] def iand (k:IntKind) (a b:Int):Int:=k.wrap (BitVec.ofInt k.bits a &&& BitVec.ofInt k.bits b).toNat
@[irreducible] def ior (k:IntKind) (a b:Int):Int:=k.wrap (BitVec.ofInt k.bits a ||| BitVec.ofInt k.bits b).toNat
@[irreducible] def imax (a b:Int):Int:=if a<b then b else a
@[irreducible] def imin (a b:Int):Int:=if b<a then b else a
def brV (v:PV) (A B:Unit->Prop):Prop :=
 match v with
 |.tt=>A ()| .ff=>B ()| .bool b=>Br b A B| .nbool b=>Br b B A| _=>False
def zHR (k k':IntKind):Bool:=decide (k=k')
def arK (k:IntKind) (z:Unit->Int) (K:PV->Prop):Prop :=
 match k with
 |.i64=>InI64 z/\K (.int .i64 z)| k=>K (.int k (fun _=>nx k (z ())))
def intK (op:BinOp) (k:IntKind) (a:Unit->Int) (k':IntKind) (b:Unit->Int) (K:PV->Prop):Prop :=
 match op with
 |.shl=>Nn b/\K (.int k (fun _=>ishl k (a ()) (b ())))| .shr=>Nn b/\K (.int k (fun _=>ishr k (a ()) (b ())))
 |op=>(match zHR k k' with
  |true=>(match op with
   |.add=>arK k (fun _=>a ()+b ()) K| .sub=>arK k (fun _=>a ()-b ()) K| .mul=>arK k (fun _=>a ()*b ()) K| .quo=>Nz b/\K (.int k (fun _=>nx k (iquo (a ()) (b ()))))| .rem=>Nz b/\K (.int k (fun _=>irem (a ()) (b ())))| .and=>K (.int k (fun _=>iand k (a ()) (b ())))| .or=>K (.int k (fun _=>ior k (a ()) (b ())))| .eql=>K (.bool (fun _=>decide (a ()=b ())))| .neq=>K (.nbool (fun _=>decide (a ()=b ())))| .lss=>K (.bool (fun _=>decide (a ()<b ())))| .leq=>K (.bool (fun _=>decide (a ()<=b ())))| .gtr=>K (.bool (fun _=>decide (b ()<a ())))| .geq=>K (.bool (fun _=>decide (b ()<=a ())))| _=>False)
  |false=>False)
def bval:PV->Option (Unit->Bool)
 |.tt=>some (fun _=>true)| .ff=>some (fun _=>false)| .bool b=>some b| _=>none
def mC:List PV->Option (List (Unit->Int))
 |[]=>some []
 |.int .i64 n::r=>match mC r with
  |some l=>some (n::l)| none=>none
 |_=>none
def pR:List (Unit->Int)->List Int
 |[]=>[]| x::r=>x ()::pR r
def rdK (ty:Ty) (cs:List PV) (off:Nat) (K:PV->Prop):Prop :=
 (match ty.isNo with|true=>False|false=>(match nle (off+ty.cells) cs.length with|true=>K ((match ty.isA with|true=>.agg ((cs.drop off).take ty.cells)|false=>cs.getD off .any))|false=>False))
def zDT (fs:List (Nat×Nat×Bool)):List (Nat×PV)->List PV->Option (List PV)
 |[],z=>some z
 |(i,v)::r,z=>match fs[i]? with
  |some (off,sz,_)=>(match nqb (yF v).length sz&&nle (off+sz) z.length&&qV v with|true=>zDT fs r (wZ z off (yF v))|false=>none)| none=>none
def zDU (n:Nat):List (Nat×PV)->List PV->Option (List PV)
 |[],z=>some z| (i,v)::r,z=>(match nqb (yF v).length n&&nle (i*n+n) z.length&&qV v with|true=>zDU n r (wZ z (i*n) (yF v))|false=>none)
def d5 (n:Nat):List (Nat×PV)->List (List PV)->Option (List (List PV))
 |[],z=>some z| (i,v)::r,z=>(match nqb (yF v).length n&&nlt i z.length&&qV v with|true=>d5 n r (z.set i (yF v))|false=>none)
def cF (z:List PV):Nat->List (List PV)
 |0=>[]| n+1=>z::cF z n
def slOf:List (List PV)->PV
 |[]=>.emp| x::r=>.sl (fun _=>yV (x::r))
def wY (e:Operand->PV):List (Nat×Operand)->List (Nat×PV)
 |[]=>[]| (i,o)::r=>(i,e o)::wY e r
def evs (e:Operand->PV):List Operand->List PV
 |[]=>[]| o::r=>e o::evs e r
def lenK (t:Ty) (v:PV) (K:PV->Prop):Prop :=
 match t with
 |.sli _ _ _=>(match v with
  |.sl els=>K (.int .i64 (fun _=>((els ()).length:Nat)))| .osl _ _ _ l=>K (.int .i64 (fun _=>(l ():Nat)))| .nil=>K (.int .i64 (fun _=>0))| .emp=>K (.int .i64 (fun _=>0))| _=>False)
 |_=>False
def sV (e:Operand->PV) (d:Unit->Int):Option Operand->Option (Unit->Int)
 |none=>some d
 |some o=>match e o with
  |.int _ n=>some n| _=>none
def u7 (P:Program) (t:TypeId):Bool :=
 match P.underlying t with
 |some (.struct _)=>true| some (.array _ _)=>true| _=>false
def tySt (P:Program) (i:TypeInfo) (fs:Array Field):Ty :=
 match i.zero with
 |some (.agg zs)=>if (∀ f,f∈fs.toList->0<P.cellsOf f.type)/\zs.size=i.size/\(∀ f,f∈fs.toList->(P.underlying f.type).isSome=true) then .st i.size (fs.toList.map fun f=>(f.offset,P.cellsOf f.type,u7 P f.type)) (zs.toList.map x8) else .no| _=>.no
def tySl (P:Program) (i:TypeInfo) (e:TypeId):Ty :=
 if i.size≠1 then .no else
 match i.zero,P.info? e with
 |some (.slice none 0 0),some j=>match j.zero with
  |some z=>if z.cells.size=j.size/\0<j.size/\0<j.bytes then .sli j.size j.bytes (z.cells.toList.map x8) else .no| none=>.no
 |_,_=>.no
def tyAr (P:Program) (i:TypeInfo) (len:Nat) (e:TypeId):Ty :=
 match i.zero with
 |some (.agg zs)=>if zs.size=i.size/\i.size=len*P.cellsOf e/\1<len/\0<P.cellsOf e/\(P.underlying e).isSome=true then .arr len (P.cellsOf e) (u7 P e) (zs.toList.map x8) else .no| _=>.no
def tySc (i:TypeInfo) (d:TypeDesc):Ty :=
 match i.zero with
 |some zv=>if i.size=1 then (match d,zv with
  |.int k,.int k' n=>if k=k' then .sc (.int k (fun _=>n)) else .no| .bool,.bool false=>.sc .ff| .func _ _ _,.nilFunc=>.sc .nilf| .pointer _,.pointer none=>.sc .nilp| .string,.string s=>.sc (.str (fun _=>s))| _,_=>.no) else .no
 |none=>.no
def uG (P:Program) (t:TypeId):Ty :=
 match P.info? t,P.underlying t with
 |some i,some (.struct fs)=>tySt P i fs| some i,some (.slice e)=>tySl P i e| some i,some (.array len e)=>tyAr P i len e| some i,some d=>tySc i d| _,_=>.no
end Go.Proofs.YtfainocfaddbdaaGreat
