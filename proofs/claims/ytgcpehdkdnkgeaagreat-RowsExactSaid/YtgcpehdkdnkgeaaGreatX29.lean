/- A part of the proof: BrB, SpA, SpB, SpC, SpD, SpE, SpF. -/
import Derived.Test.YtgcpehdkdnkgeaaGreatX28
import Derived.Test.YtgcpehdkdnkgeaaGreatX22
import Derived.ProofKit
import Derived.OpenShut
import Derived.ReadAgain
import Derived.ChangeStays
import Derived.Test.YtgcpehdkdnkgeaaGreatX27
import Derived.Test.YtgcpehdkdnkgeaaGreatX21
set_option linter.all false
namespace Go.Proofs.YtgcpehdkdnkgeaaGreat
open Go Go.ChangeShapes Go.WideShapes Go.ChangeAt Go.RowKit
set_option maxRecDepth 100000
theorem own:ownKnob Tryz.prog.godebug=none:=by kernel_rfl
theorem kids:Kids Tryz.prog (·<Tryz.prog.types.size):=kids_rows (by kernel_rfl) (by kernel_rfl)
theorem full:∀ t e,t<Tryz.prog.types.size→Tryz.prog.underlying t=some (.slice e)→0<Tryz.prog.cellsOf e:=slices_full_of _ (by kernel_rfl)
theorem pC {H:Type}{enc:TypeId × Value→H}{W W':World}{sp:Nat→Bool}:∀ {ts:List TypeId} {vs:List Value} {ds:List (DataW H)} {ps:List MemPlace},(∀ t∈ts,t<Tryz.prog.types.size) →
  DataW.TrodAll enc Tryz.prog W 0 (fun _=>true) true ts vs ds ps→(∀ p∈ps,W.sameAt W' p)→(∀ p∈ps,sp p.block=true)→DataW.TrodAll enc Tryz.prog W' 0 sp true ts vs ds ps
 | [],[],[],_,_,h,_,_=>h
 | _::_,_::_,_::_,_,hT,⟨p,q,⟨n,h1⟩,h2,e⟩,hs,hb=>by
  subst e
  refine⟨p,q,⟨n,?_⟩,pC (fun t ht=>hT t (List.mem_cons_of_mem _ ht)) h2 (fun x hx=>hs x (List.mem_append_right _ hx)) (fun x hx=>hb x (List.mem_append_right _ hx)),rfl⟩
  exact DataW.trod_respare kids full n _ _ _ (hT _ List.mem_cons_self) (DataW.trod_carry n _ _ _ h1 (fun x hx=>hs x (List.mem_append_left _ hx))) (fun x hx=>hb x (List.mem_append_left _ hx))
theorem zFN {W W':World}(hs:W.heap.size≤W'.heap.size)(ho:W'.os=W.os)(hu:W'.output=W.output)(hb:∀ b,b<W.heap.size→W'.heap[b]?=W.heap[b]?)(may:MemPlace→Prop):W.keptBut W' may:=by
 refine⟨ho,hu,fun i hi=>?_⟩
 rw[hb i hi]
 have:W.heap[i]?=some W.heap[i]:=by simp [hi]
 rw[this]
 cases W.heap[i] with
 | cells c t fr=>exact⟨rfl,rfl,rfl,fun _ _=>rfl⟩
 | map es clock=>exact .inr ⟨rfl,rfl⟩
 | _=>rfl
theorem dL {s:ChangeSpec}{fn:Func}{H:Type}{enc:TypeId × Value→H}{W:World}{args:Array Value}{ds gs:List (DataW H)}{before:List MemPlace}{fresh handsOn again:Bool}
  (hv:s.vars=[]) (hres:fn.resultTypes=#[4]) (hsp:s.fn H ds={ results:=[.lit (.bool true)],args:=ds }) (hp:∀ t∈fn.params.toList,t<Tryz.prog.types.size)
  (hW:DataW.Whole enc Tryz.prog fn.params.toList s.vars false W args.toList ds gs before)
  {f:FuncId} {pvs:List PV} (hS:zB f pvs (.bool (fun _=>true))) (hn:args.size=pvs.length) (hrep:∀ j,j<pvs.length→Rep W (InW W) (fun _=>none) (args.getD j undef) (pvs.getD j .any)) :
  Calls Tryz.prog f args W fun e W'=>∃ v,e=.returned v∧s.post enc Tryz.prog fn false fresh handsOn again W args v W':=by
 have hgo:=hS.go W (InW W) (fun _=>none) args (fun b i h=>h) zL3 hn hrep
 rw[u7] at hgo
 refine hgo.mono fun e W' ⟨v,S',β',he,hl,hr,_⟩=>?_
 subst he
 have hvt:v=.bool true:=by
  cases hr with
  | c hf h=>cases h;rfl
 subst hvt
 refine⟨_,rfl,?_⟩
 have hsame:∀ b,b<W.heap.size→W'.heap[b]?=W.heap[b]?:=fun b hb=>hl.same b hb (fun ⟨n,o,h,_⟩=>by simp at h)
 have hlt:=hW.lt
 have hW0:=hW
 obtain⟨p,q,hA,hV,rfl,hfz,hnd⟩:=hW
 rw[hv] at hV
 obtain⟨rfl,rfl⟩:=trodVars_none hV
 rw[List.append_nil] at hlt hfz hW0
 have hat:∀ x∈p,W.sameAt W' x:=fun x hx=>by
  have:=hlt x hx
  cases x with
  | cell b o=>show W'.cell? _=W.cell? _;unfold World.cell?;rw[hsame b this]
  | map b=>exact hsame b this
 have hargs:∀ sp:Nat→Bool,(∀ x∈p,sp x.block=true)→DataW.TrodAll enc Tryz.prog W' 0 sp true fn.params.toList args.toList ds p:=fun sp h=>pC hp hA hat h
 have hold:∀ x∈p,(fun b=>decide (b<W.heap.size)) x.block=true:=fun x hx=>by simpa using hlt x hx
 have hrs:∀ (b:Nat) (sp:Nat→Bool) (hd:Bool),DataW.TrodAll enc Tryz.prog W' b sp hd fn.resultTypes.toList ((Value.bool true).resultList fn.resultTypes.size) [.lit (.bool true)] []:=fun b sp hd=>by
  rw[hres]
  exact⟨[],[],shut_bool Tryz.underlying4 true,rfl,rfl⟩
 have hfz':W'.noneFrozen p:=fun b o h=>by
  have g:=hfz b o h
  have hb:b<W.heap.size:=hlt _ h
  unfold World.frozen? at g ⊢
  rw[hsame b hb]
  exact g
 refine⟨ds,[],p,[],p,[],hW0,?_,?_,?_,?_,fun _=>⟨?_,ds.cons (.lit (.bool true)),[],p,⟨p,[],?_,?_,by simp,hfz',fun h=>by cases h⟩,fun x hx _=>hx⟩⟩
 ·rw[List.append_nil,hsp];exact hrs _ _ _
 ·rw[List.append_nil,hsp];exact hargs _ hold
 ·rw[List.append_nil,hsp,hv];rfl
 ·exact zFN hl.size hl.os hl.output hsame _
 ·exact ok_one hres rfl (okWide_bool_mk Tryz.underlying4 _)
 ·exact trodAll_append (hargs _ (fun _ _=>rfl)) (hrs _ _ _)
 ·rw[hv];rfl
end Go.Proofs.YtgcpehdkdnkgeaaGreat
namespace Go.Proofs.YtgcpehdkdnkgeaaGreat
open Go
def fdN (raw:List UInt8) (n a:Nat):Nat:=match raw[a]? with
 | some b=>b.toNat % n
 | none=>0
def na (raw:List UInt8) (a:Nat):Nat:=if a<raw.length then a+1 else a
theorem qF {raw:List UInt8}{n a:Nat}(h:0<n):fdN raw n a<n:=by
 unfold fdN
 split
 ·exact Nat.mod_lt _ h
 ·exact h
theorem jW {raw:List UInt8}{a:Nat}(h:a≤raw.length):na raw a≤raw.length:=by unfold na;split <;> omega
def dnm:Nat→Int
 | 0=>1
 | 1=>1
 | 2=>2
 | _=>4
theorem zH6 (k:Nat):1≤dnm k∧dnm k≤4:=by unfold dnm;split <;> decide
def fdQ (raw:List UInt8) (a:Nat):Rat × Nat:=(uD ((fdN raw 9 a:Int) - 4) (dnm (fdN raw 4 (na raw a))),na raw (na raw a))
theorem zKS {a b:Int}(h1:a.natAbs<B)(h2:0<b)(h3:b.natAbs<B):Fits 1 (uD a b):=by
 obtain⟨d,hd⟩:∃ d:Nat,b=(d:Int):=⟨b.toNat,by omega⟩
 subst hd
 unfold uD
 rw[Rat.divInt_ofNat]
 exact aF (by rw[Nat.pow_one];exact h1) (by rw[Nat.pow_one];simpa using h3) (by omega)
theorem uU (raw:List UInt8)(a:Nat):Fits 1 (fdQ raw a).1:=by
 have h1:=qF (raw:=raw) (n:=9) (a:=a) (by decide)
 obtain⟨h2,h3⟩:=zH6 (fdN raw 4 (na raw a))
 have hB:B=4294967296:=rfl
 exact zKS (by omega) (by omega) (by omega)
def pW (raw:List UInt8):Nat→Nat→F→Nat→F × Nat
 | 0,_,f,a=>(f,a)
 | n+1,v,f,a=>if 0<fdN raw 3 a then pW raw n (v+1) (f.add ((F.var v).scale (fdQ raw (na raw a)).1)) (fdQ raw (na raw a)).2 else pW raw n (v+1) f (na raw a)
def fdF (raw:List UInt8) (n a:Nat):F × Nat:=pW raw n 0 (F.num (fdQ raw a).1) (fdQ raw a).2
theorem zCL (raw:List UInt8):∀ (n v:Nat) (f:F) (a k m:Nat),f.fl k m→(pW raw n v f a).1.fl (k+6 * n) (m+n)
 | 0,_,_,_,_,_,h=>h
 | n+1,v,f,a,k,m,h=>by
  unfold pW
  split
  ·exact (zCL raw n _ _ _ (k+6) (m+1) ((h.add ((wO _).scale (uU raw _))).mono (by omega) (by omega))).mono (by omega) (by omega)
  ·exact (zCL raw n _ _ _ k m h).mono (by omega) (by omega)
theorem zME (raw:List UInt8)(n a:Nat):(fdF raw n a).1.fl (1+6 * n) n:=(zCL raw n 0 _ _ 1 0 (wY (uU raw a))).mono (by omega) (by omega)
theorem sW {raw:List UInt8}{a:Nat}(h:a≤raw.length):(fdQ raw a).2≤raw.length:=jW (jW h)
theorem zCK {raw:List UInt8}:∀ {n v:Nat} {f:F} {a:Nat},a≤raw.length→(pW raw n v f a).2≤raw.length
 | 0,_,_,_,h=>h
 | n+1,v,f,a,h=>by
  unfold pW
  split
  ·exact zCK (sW (jW h))
  ·exact zCK (jW h)
theorem zDN {raw:List UInt8}{n a:Nat}(h:a≤raw.length):(fdF raw n a).2≤raw.length:=zCK (sW h)
def fdL (raw:List UInt8) (d:Nat):Nat→Nat→Nat→List F × Nat
 | 0,_,a=>([],a)
 | n+1,v,a=>((fdF raw v a).1::(fdL raw d n (v+d) (fdF raw v a).2).1,(fdL raw d n (v+d) (fdF raw v a).2).2)
theorem gG (raw:List UInt8)(d:Nat):∀ n v a,(fdL raw d n v a).1.length=n
 | 0,_,_=>rfl
 | n+1,v,a=>by simp only[fdL,List.length_cons,gG raw d n]
theorem zDL {raw:List UInt8}{d:Nat}:∀ {n v a},a≤raw.length→(fdL raw d n v a).2≤raw.length
 | 0,_,_,h=>h
 | n+1,v,a,h=>zDL (n:=n) (zDN h)
theorem zDM {raw:List UInt8}{d:Nat}:∀ {n v a:Nat} {f:F},f∈(fdL raw d n v a).1→f.fl (1+6 * (v+d * n)) (v+d * n)
 | 0,_,_,f,h=>absurd h (by simp [fdL])
 | n+1,v,a,f,h=>by
  simp only[fdL,List.mem_cons] at h
  have e:d * (n+1)=d * n+d:=Nat.mul_succ d n
  rcases h with rfl | h
  ·exact (zME raw v a).mono (by omega) (by omega)
  ·exact (zDM h).mono (by omega) (by omega)
structure FGrp where
 n:Nat
 us:List F
 os:List F
def FGrp.g (x:FGrp):Grp:=⟨x.n,x.us.map fA,x.os.map fA⟩
def fdG (raw:List UInt8) (a:Nat):FGrp × Nat :=
 let n:=1+fdN raw 3 a
 let a1:=na raw a
 let u:=fdN raw 5 a1
 let a2:=na raw a1
 let o:=1+fdN raw 3 a2
 let a3:=na raw a2
 let U:=fdL raw 1 u n a3
 let O:=fdL raw 0 o (n+u) U.2
 (⟨n,U.1,O.1⟩,O.2)
structure FGrp.small (x:FGrp):Prop where
 n1:1≤x.n
 n2:x.n≤3
 us:x.us.length≤4
 o1:1≤x.os.length
 o2:x.os.length≤3
 uf:∀ f,f∈x.us→f.fl 43 7
 of:∀ f,f∈x.os→f.fl 43 7
theorem nT (raw:List UInt8)(a:Nat):(fdG raw a).1.small:=by
 have h1:=qF (raw:=raw) (n:=3) (a:=a) (by decide)
 have h2:=qF (raw:=raw) (n:=5) (a:=na raw a) (by decide)
 have h3:=qF (raw:=raw) (n:=3) (a:=na raw (na raw a)) (by decide)
 refine⟨?_,?_,?_,?_,?_,fun f hf=>?_,fun f hf=>?_⟩
 ·show 1≤1+fdN raw 3 a;omega
 ·show 1+fdN raw 3 a≤3;omega
 ·show (fdL raw 1 _ _ _).1.length≤4;rw[gG];omega
 ·show 1≤(fdL raw 0 _ _ _).1.length;rw[gG];omega
 ·show (fdL raw 0 _ _ _).1.length≤3;rw[gG];omega
 ·have:=zDM (f:=f) (raw:=raw) (d:=1) hf
  exact this.mono (by omega) (by omega)
 ·have:=zDM (f:=f) (raw:=raw) (d:=0) hf
  exact this.mono (by omega) (by omega)
theorem zMC {raw:List UInt8}{a:Nat}(h:a≤raw.length):(fdG raw a).2≤raw.length:=zDL (zDL (jW (jW (jW h))))
def gU (q:Rat):Rat:=if q<0 then -q else q
theorem rX {k:Nat}{q:Rat}(h:Fits k q):Fits k (gU q):=by
 unfold gU
 split
 ·exact sT h
 ·exact h
def fdB (raw:List UInt8):Nat→Nat→List (Rat × Rat) × Nat
 | 0,a=>([],a)
 | n+1,a=>(((fdQ raw a).1,(fdQ raw a).1+gU (fdQ raw (fdQ raw a).2).1)::(fdB raw n (fdQ raw (fdQ raw a).2).2).1,(fdB raw n (fdQ raw (fdQ raw a).2).2).2)
theorem zCM (raw:List UInt8):∀ n a,(fdB raw n a).1.length=n
 | 0,_=>rfl
 | n+1,a=>by simp only[fdB,List.length_cons,zCM raw n]
theorem zMF {raw:List UInt8}:∀ {n a},a≤raw.length→(fdB raw n a).2≤raw.length
 | 0,_,h=>h
 | n+1,a,h=>zMF (n:=n) (sW (sW h))
theorem zEZ {raw:List UInt8}:∀ {n a:Nat} {x:Rat × Rat},x∈(fdB raw n a).1→Fits 3 x.1∧Fits 3 x.2
 | 0,_,x,h=>absurd h (by simp [fdB])
 | n+1,a,x,h=>by
  simp only[fdB,List.mem_cons] at h
  rcases h with rfl | h
  ·exact⟨(uU raw a).mono (by decide),(vA (uU raw a) (rX (uU raw _))).mono (by decide)⟩
  ·exact zEZ h
theorem zH3 {raw:List UInt8}:∀ {n a:Nat} {x:Rat × Rat},x∈(fdB raw n a).1→x.1≤x.2
 | 0,_,x,h=>absurd h (by simp [fdB])
 | n+1,a,x,h=>by
  simp only[fdB,List.mem_cons] at h
  rcases h with rfl | h
  ·show (fdQ raw a).1≤(fdQ raw a).1+gU _
   have:0≤gU (fdQ raw (fdQ raw a).2).1:=by unfold gU;split <;> grind
   grind
  ·exact zH3 h
structure FReg where
 bs:List (Rat × Rat)
 rows:List F
def FReg.g (x:FReg):Reg:=⟨x.bs.map fun b=>zC b.1,x.bs.map fun b=>zC b.2,x.rows.map fA⟩
def fdR (raw:List UInt8) (n a:Nat):FReg × Nat :=
 let b:=fdB raw n a
 let k:=fdN raw 3 b.2
 let l:=fdL raw 0 k n (na raw b.2)
 (⟨b.1,l.1⟩,l.2)
structure FReg.small (x:FReg) (n:Nat):Prop where
 bs:x.bs.length=n
 bf:∀ b,b∈x.bs→Fits 3 b.1∧Fits 3 b.2
 ord:∀ b,b∈x.bs→b.1≤b.2
 rows:x.rows.length≤2
 rf:∀ f,f∈x.rows→f.fl (1+6 * n) n
theorem zI3 (raw:List UInt8)(n a:Nat):(fdR raw n a).1.small n:=by
 have h1:=qF (raw:=raw) (n:=3) (a:=(fdB raw n a).2) (by decide)
 refine⟨zCM raw n a,fun b hb=>zEZ hb,fun b hb=>zH3 hb,?_,fun f hf=>?_⟩
 ·show (fdL raw 0 _ _ _).1.length≤2;rw[gG];omega
 ·have:=zDM (f:=f) (raw:=raw) (d:=0) hf
  exact this.mono (by omega) (by omega)
theorem zMB {raw:List UInt8}{n a:Nat}(h:a≤raw.length):(fdR raw n a).2≤raw.length:=zDL (jW (zMF h))
structure FQry where
 g:FGrp
 r:FReg
 goal:F
def FQry.q (x:FQry):Qry:=⟨x.g.g,x.r.g,fA x.goal⟩
def fdY (raw:List UInt8) (a:Nat):FQry × Nat :=
 let g:=fdG raw a
 let r:=fdR raw g.1.n g.2
 let f:=fdF raw (g.1.n+g.1.us.length) r.2
 (⟨g.1,r.1,f.1⟩,f.2)
structure FQry.small (x:FQry):Prop where
 g:x.g.small
 r:x.r.small x.g.n
 goal:x.goal.fl 43 7
theorem xA (raw:List UInt8)(a:Nat):(fdY raw a).1.small:=by
 have hg:=nT raw a
 refine⟨hg,zI3 raw _ _,?_⟩
 have h1:=hg.n2
 have h2:=hg.us
 show (fdF raw ((fdG raw a).1.n+(fdG raw a).1.us.length) (fdR raw (fdG raw a).1.n (fdG raw a).2).2).1.fl 43 7
 exact (zME raw _ _).mono (by omega) (by omega)
theorem zRR {raw:List UInt8}{a:Nat}(h:a≤raw.length):(fdY raw a).2≤raw.length:=zDN (zMB (zMC h))
theorem zGY {l:List F}{k n:Nat}(hl:l.length<2^38)(h:∀ f,f∈l→f.fl k n)(hn:n<2^38):Asz k (l.map fA):=⟨by simpa using hl,fun a ha=>by
 obtain⟨f,hf,rfl⟩:=List.mem_map.1 ha
 exact ((h f hf).fit hn).fA⟩
theorem FQry.small.sz {x:FQry}(h:x.small):x.q.sz 43 where
 g:=⟨zGY (by have:=h.g.us;omega) h.g.uf (by decide),zGY (by have:=h.g.o2;omega) h.g.of (by decide)⟩
 r:=⟨⟨by show (x.r.bs.map _).length<_;rw[List.length_map,h.r.bs];have:=h.g.n2;omega,fun a ha=>by
   obtain⟨b,hb,rfl⟩:=List.mem_map.1 ha
   exact zU ((h.r.bf b hb).1.mono (by decide))⟩,⟨by show (x.r.bs.map _).length<_;rw[List.length_map,h.r.bs];have:=h.g.n2;omega,fun a ha=>by
   obtain⟨b,hb,rfl⟩:=List.mem_map.1 ha
   exact zU ((h.r.bf b hb).2.mono (by decide))⟩,
  zGY (by have:=h.r.rows;omega) (fun f hf=>(h.r.rf f hf).mono (by have:=h.g.n2;omega) (by have:=h.g.n2;show _≤7;omega)) (by decide)⟩
 goal:=(h.goal.fit (by decide)).fA
def r6 (raw:List UInt8) (q:Qry) (n m:Nat):Nat→List Dec→Nat→List Dec
 | 0,p,_=>p
 | k+1,p,a =>
  let kd:=1+fdN raw 4 a
  let a1:=na raw a
  if kd=3∨kd=4 then r6 raw q n m k (p++[⟨kd,fdN raw n a1,zC (fdQ raw (na raw a1)).1⟩]) (fdQ raw (na raw a1)).2
  else if m=0 then r6 raw q n m k p a1
  else if (⟨q,p,[]⟩:Scp).dcd 1 (fdN raw m a1)=true∨(⟨q,p,[]⟩:Scp).dcd 2 (fdN raw m a1)=true then r6 raw q n m k p (na raw a1)
  else r6 raw q n m k (p++[⟨kd,fdN raw m a1,R0⟩]) (na raw a1)
def fdS (raw:List UInt8):Scp :=
 let y:=fdY raw 0
 ⟨y.1.q,r6 raw y.1.q y.1.g.n y.1.g.us.length (fdN raw 4 y.2) [] (na raw y.2),[]⟩
structure PathOk (n m:Nat) (p:List Dec):Prop where
 d:∀ d,d∈p→(d.k=1∨d.k=2)∧0≤d.i∧d.i<m∧d.x=R0∨(d.k=3∨d.k=4)∧0≤d.i∧d.i<n∧∃ q,Fits 1 q∧d.x=zC q
theorem mS {raw:List UInt8}{q:Qry}{n m:Nat}(hn:0<n):∀ {k a:Nat} {p:List Dec},PathOk n m p→PathOk n m (r6 raw q n m k p a)∧(r6 raw q n m k p a).length≤p.length+k
 | 0,a,p,h=>⟨h,Nat.le_refl _⟩
 | k+1,a,p,h=>by
  have h4:=qF (raw:=raw) (n:=4) (a:=a) (by decide)
  unfold r6
  dsimp only
  split
  ·rename_i hk
   have hi:=qF (raw:=raw) (n:=n) (a:=na raw a) hn
   obtain⟨g1,g2⟩:=mS (raw:=raw) (q:=q) (m:=m) hn (k:=k) (a:=(fdQ raw (na raw (na raw a))).2) (p:=p++[⟨((1+fdN raw 4 a:Nat):Int),fdN raw n (na raw a),zC (fdQ raw (na raw (na raw a))).1⟩]) ⟨fun d hd=>by
    rcases List.mem_append.1 hd with hd | hd
    ·exact h.d d hd
    ·obtain rfl:=List.mem_singleton.1 hd
     exact .inr ⟨by show ((1+fdN raw 4 a:Nat):Int)=3∨((1+fdN raw 4 a:Nat):Int)=4;omega,by show (0:Int)≤(fdN raw n (na raw a):Int);omega,by show (fdN raw n (na raw a):Int)<_;omega,_,uU raw _,rfl⟩⟩
   refine⟨g1,?_⟩
   rw[List.length_append,List.length_singleton] at g2
   omega
  ·rename_i hk
   split
   ·obtain⟨g1,g2⟩:=mS (raw:=raw) (q:=q) (m:=m) hn (k:=k) (a:=na raw a) h
    exact⟨g1,by omega⟩
   ·rename_i hm
    have hi:=qF (raw:=raw) (n:=m) (a:=na raw a) (by omega)
    split
    ·obtain⟨g1,g2⟩:=mS (raw:=raw) (q:=q) (m:=m) hn (k:=k) (a:=na raw (na raw a)) h
     exact⟨g1,by omega⟩
    ·obtain⟨g1,g2⟩:=mS (raw:=raw) (q:=q) (m:=m) hn (k:=k) (a:=na raw (na raw a)) (p:=p++[⟨((1+fdN raw 4 a:Nat):Int),fdN raw m (na raw a),R0⟩]) ⟨fun d hd=>by
      rcases List.mem_append.1 hd with hd | hd
      ·exact h.d d hd
      ·obtain rfl:=List.mem_singleton.1 hd
       exact .inl ⟨by show ((1+fdN raw 4 a:Nat):Int)=1∨((1+fdN raw 4 a:Nat):Int)=2;omega,by show (0:Int)≤(fdN raw m (na raw a):Int);omega,by show (fdN raw m (na raw a):Int)<_;omega,rfl⟩⟩
     refine⟨g1,?_⟩
     rw[List.length_append,List.length_singleton] at g2
     omega
theorem oS (raw:List UInt8):PathOk (fdY raw 0).1.g.n (fdY raw 0).1.g.us.length (fdS raw).path∧(fdS raw).path.length≤3:=by
 have h:=(xA raw 0).g.n1
 obtain⟨g1,g2⟩:=mS (raw:=raw) (q:=(fdY raw 0).1.q) (m:=(fdY raw 0).1.g.us.length) (n:=(fdY raw 0).1.g.n) (by omega) (k:=fdN raw 4 (fdY raw 0).2) (a:=na raw (fdY raw 0).2) (p:=[]) ⟨fun d hd=>absurd hd (by simp)⟩
 have:=qF (raw:=raw) (n:=4) (a:=(fdY raw 0).2) (by decide)
 exact⟨g1,by
  have:(fdS raw).path.length≤0+fdN raw 4 (fdY raw 0).2:=g2
  omega⟩
theorem nR (raw:List UInt8):(fdS raw).sz 43:=by
 obtain⟨h1,h2⟩:=oS raw
 refine⟨(xA raw 0).sz,⟨by omega,fun d hd=>?_⟩,⟨by show 0<2^38;decide,fun a ha=>absurd ha (by simp [fdS]),fun a ha=>absurd ha (by simp [fdS])⟩⟩
 rcases h1.d d hd with ⟨_,_,_,h⟩ | ⟨_,_,_,q,hq,h⟩
 ·rw[h];exact⟨Nat.zero_le _,Nat.zero_le _⟩
 ·rw[h];exact zU (hq.mono (by decide))
structure F.wf (f:F) (n:Int):Prop where
 cn:Cn f.ts
 v:∀ t,t∈f.ts→0≤t.1∧t.1<n
theorem F.wf.merge {f g:F}{c:Rat}{n:Int}(hf:f.wf n)(hg:g.wf n):(f.merge g c).wf n:=⟨hf.cn.mrg hg.cn,fun t ht=>by
 rcases jM ht with ⟨u,hu,e⟩ | ⟨u,hu,e⟩
 ·rw[←e];exact hf.v u hu
 ·rw[←e];exact hg.v u hu⟩
theorem F.wf.num (q:Rat)(n:Int):(F.num q).wf n:=⟨Cn.nil,fun t ht=>absurd ht (by simp [F.num])⟩
theorem F.wf.var {v n:Int}(h1:0≤v)(h2:v<n):(F.var v).wf n:=⟨Cn.nil.cons (by simp) (by show (1:Rat)≠0;decide),fun t ht=>by
 have:t=(v,1):=by simpa [F.var] using ht
 rw[this];exact⟨h1,h2⟩⟩
theorem F.wf.zero0 (n:Int):(⟨[],0⟩:F).wf n:=⟨Cn.nil,fun t ht=>absurd ht (by simp)⟩
theorem F.wf.scale {f:F}{c:Rat}{n:Int}(hf:f.wf n):(f.scale c).wf n:=F.wf.merge (F.wf.zero0 n) hf
theorem F.wf.add {f g:F}{n:Int}(hf:f.wf n)(hg:g.wf n):(f.add g).wf n:=hf.merge hg
theorem F.wf.mono {f:F}{n m:Int}(hf:f.wf n)(h:n≤m):f.wf m:=⟨hf.cn,fun t ht=>⟨(hf.v t ht).1,by have:=(hf.v t ht).2;omega⟩⟩
theorem zCJ (raw:List UInt8)(N:Nat):∀ (n v:Nat) (f:F) (a:Nat),v+n≤N→f.wf N→(pW raw n v f a).1.wf N
 | 0,_,_,_,_,h=>h
 | n+1,v,f,a,hv,h=>by
  unfold pW
  split
  ·exact zCJ raw N n _ _ _ (by omega) (h.add (F.wf.var (by omega) (by omega)).scale)
  ·exact zCJ raw N n _ _ _ (by omega) h
theorem zMD (raw:List UInt8)(n a:Nat):(fdF raw n a).1.wf n:=zCJ raw n n 0 _ _ (by omega) (F.wf.num _ _)
theorem zDK {raw:List UInt8}{d:Nat}:∀ {n v a:Nat} {i:Nat} {f:F},(fdL raw d n v a).1[i]?=some f→f.wf ((v+i * d:Nat):Int)
 | 0,_,_,i,f,h=>by simp [fdL] at h
 | n+1,v,a,0,f,h=>by
  simp only[fdL,List.getElem?_cons_zero,Option.some.injEq] at h
  rw[←h,Nat.zero_mul,Nat.add_zero]
  exact zMD raw v a
 | n+1,v,a,i+1,f,h=>by
  simp only[fdL,List.getElem?_cons_succ] at h
  have:=zDK h
  have e:(i+1) * d=i * d+d:=Nat.succ_mul i d
  rw[show v+(i+1) * d=v+d+i * d by omega]
  exact this
def xV (L:List Lem) (k:Nat):Rat:=((L[k - 1]?).map fun m=>m.v.q).getD 0
def qR (L:List Lem) (unit:Int):Nat→List Lem→Nat × Nat→Nat × Nat
 | _,[],b=>b
 | n,m::r,b=>qR L unit (n+1) r (if m.u=unit then (if m.up=true then (if b.2=0∨y7 m.v.q (xV L b.2)<0 then (b.1,n+1) else b) else (if b.1=0∨0<y7 m.v.q (xV L b.1) then (n+1,b.2) else b)) else b)
def Scp.best (s:Scp) (unit:Int):Nat × Nat:=qR s.lems unit 0 s.lems (0,0)
theorem zAB {L:List Lem}{unit:Int}:∀ {r:List Lem} {n:Nat} {b:Nat × Nat},r=L.drop n→(∀ k,k=b.1∨k=b.2→k≠0→∃ m,L[k - 1]?=some m∧m.u=unit) →
  ∀ k,k=(qR L unit n r b).1∨k=(qR L unit n r b).2→k≠0→∃ m,L[k - 1]?=some m∧m.u=unit
 | [],n,b,_,hb=>hb
 | m::r,n,b,hr,hb=>by
  have hm:L[n]?=some m:=by
   have:(L.drop n)[0]?=some m:=by rw[←hr];rfl
   simpa using this
  have hr':r=L.drop (n+1):=by
   have:(L.drop n).drop 1=L.drop (n+1):=by rw[List.drop_drop]
   rw[←this,←hr];rfl
  unfold qR
  refine zAB hr' fun k hk hk0=>?_
  split at hk
  ·rename_i hu
   have new:∃ m,L[n+1 - 1]?=some m∧m.u=unit:=⟨m,hm,hu⟩
   split at hk
   ·split at hk
    ·rcases hk with rfl | rfl
     ·exact hb _ (.inl rfl) hk0
     ·exact new
    ·exact hb k hk hk0
   ·split at hk
    ·rcases hk with rfl | rfl
     ·exact new
     ·exact hb _ (.inr rfl) hk0
    ·exact hb k hk hk0
  ·exact hb k hk hk0
theorem fS {s:Scp}{unit:Int}{k:Nat}(hk:k=(s.best unit).1∨k=(s.best unit).2)(h0:k≠0):∃ m,s.lems[k - 1]?=some m∧m.u=unit :=
 zAB (by simp) (fun k hk hk0=>by rcases hk with rfl | rfl <;> exact absurd rfl hk0) k hk h0
def kL (a b:List (Row × Rat)) (c:Rat):List (Row × Rat):=b.foldl (fun a m=>plMq a m.1 (m.2 * c)) a
def Scp.atLeastM (s:Scp) (v:Int):List (Row × Rat):=if v<s.q.g.n then [(⟨1,v,0,0⟩,1)] else [(⟨5,v - s.q.g.n,0,0⟩,1)]
def upM (j:Int) (lo hi:Nat) (l u:Rat):List (Row × Rat) :=
 if yB u≤0 then [(⟨10,j,0,hi⟩,1)]
 else if 0≤yB l then [(⟨8,j,lo,0⟩,1),(⟨12,j,0,hi⟩,1)]
 else [(⟨12,j,0,hi⟩,(1 / (u - l)) * u),(⟨13,j,lo,hi⟩,1 / (u - l))]
def Scp.atMostM (s:Scp) (v:Int):Option (List (Row × Rat)) :=
 if v<s.q.g.n then some [(⟨2,v,0,0⟩,1)]
 else if (s.best (v - s.q.g.n)).1=0∨(s.best (v - s.q.g.n)).2=0 then none
 else some (upM (v - s.q.g.n) (s.best (v - s.q.g.n)).1 (s.best (v - s.q.g.n)).2 (xV s.lems (s.best (v - s.q.g.n)).1) (xV s.lems (s.best (v - s.q.g.n)).2))
def Scp.aboveL (s:Scp):List (Int × Rat)→List (Row × Rat)→Option (List (Row × Rat))
 | [],l=>some l
 | t::r,l=>match (if 0<yB t.2 then some (s.atLeastM t.1) else s.atMostM t.1) with
  | none=>none
  | some more=>s.aboveL r (kL l more (gU t.2))
def Scp.above (s:Scp) (f:F):Option (Rat × List (Row × Rat)):=(s.aboveL f.ts []).map fun l=>((f.sub (s.sum (mR l)).2).c,l)
def bndL (j:Int) (x y:Option (Rat × List (Row × Rat))):List Lem :=
 (match x with
 | some v=>[⟨j,false,zC v.1,mR v.2⟩]
 | none=>[])++(match y with
 | some w=>[⟨j,true,zC (-w.1),mR w.2⟩]
 | none=>[])
def bndG (q:Qry) (path:List Dec):List A→Nat→List Lem→List Lem
 | [],_,L=>L
 | p::r,j,L=>bndG q path r (j+1) (L++bndL j ((⟨q,path,L⟩:Scp).above p.f) ((⟨q,path,L⟩:Scp).above (p.f.scale (-1))))
def Scp.bounded (s:Scp):Scp:=⟨s.q,s.path,bndG s.q s.path s.q.g.us 0 s.lems⟩
inductive Wt (s:Scp):List (Row × Rat)→Nat→Prop
 | nil:Wt s [] 0
 | cons {r q l k g N} (hk:Fits k q) (hg:∀ f,s.fm r=some f→f.fl g 3000) (h:Wt s l N):Wt s ((r,q)::l) (k+g+5+N)
theorem Wt.to {s l N M}(h:Wt s l N)(e:N=M):Wt s l M:=e ▸ h
theorem Wt.mem {s:Scp}:∀ {l:List (Row × Rat)} {N:Nat},Wt s l N→∀ t,t∈l→Fits N t.2
 | _,_,.nil,t,ht=>absurd ht (by simp)
 | _,_,.cons hk hg h,t,ht=>by
  rcases List.mem_cons.1 ht with rfl | ht
  ·exact hk.mono (by omega)
  ·exact (h.mem t ht).mono (by omega)
theorem Wt.plM {s:Scp}{r:Row}{q:Rat}{k g:Nat}(hk:Fits k q)(hg:∀ f,s.fm r=some f→f.fl g 3000):∀ {l:List (Row × Rat)} {N:Nat},Wt s l N→∃ M,M≤k+g+5+N∧Wt s (plM r q l) M
 | _,_,.nil=>⟨_,Nat.le_refl _,.cons hk hg .nil⟩
 | _,_,.cons (r:=r') (q:=q') (l:=l) (k:=k') (g:=g') (N:=N') hk' hg' h=>by
  unfold Go.Proofs.YtgcpehdkdnkgeaaGreat.plM
  split
  ·obtain⟨M,h1,h2⟩:=Wt.plM hk hg h
   exact⟨_,by omega,.cons hk' hg' h2⟩
  ·split
   ·rename_i e
    have e':r'=r:=e
    rw[e'] at hg'
    refine⟨_,?_,.cons (k:=k'+k+1) ((vA hk' hk).mono (by omega)) hg' h⟩
    omega
   ·exact⟨_,by omega,.cons hk hg (.cons hk' hg' h)⟩
theorem Wt.plMq {s:Scp}{r:Row}{q:Rat}{k g:Nat}(hk:Fits k q)(hg:∀ f,s.fm r=some f→f.fl g 3000){l:List (Row × Rat)}{N:Nat}(h:Wt s l N):∃ M,M≤k+g+5+N∧Wt s (plMq l r q) M:=by
 unfold Go.Proofs.YtgcpehdkdnkgeaaGreat.plMq
 split
 ·exact⟨N,by omega,h⟩
 ·exact Wt.plM hk hg h
theorem Wt.merge {s:Scp}{c:Rat}{kc:Nat}(hc:Fits kc c):∀ {b:List (Row × Rat)} {B:Nat} {a:List (Row × Rat)} {N:Nat},Wt s b B→Wt s a N→∃ M,M≤B+(kc+2) * b.length+N∧Wt s (kL a b c) M
 | _,_,a,N,.nil,ha=>⟨N,by simp,ha⟩
 | _,_,a,N,.cons (r:=r) (q:=q) (l:=l) (k:=k) (g:=g) (N:=B) hk hg h,ha=>by
  obtain⟨M1,h1,h2⟩:=Wt.plMq (q:=q * c) (xP hk hc) hg ha
  obtain⟨M,g1,g2⟩:=Wt.merge hc h h2
  refine⟨M,?_,g2⟩
  rw[List.length_cons,Nat.mul_succ]
  omega
theorem zED (r:Row)(q:Rat)(l):(plMq l r q).length≤l.length+1:=by
 unfold plMq
 split
 ·omega
 ·exact zCA r q l
theorem zA0 (c:Rat):∀ (b a:List (Row × Rat)),(kL a b c).length≤a.length+b.length
 | [],a=>Nat.le_refl _
 | t::b,a=>by
  have h1:=zA0 c b (plMq a t.1 (t.2 * c))
  have h2:=zED t.1 (t.2 * c) a
  have e:kL a (t::b) c=kL (plMq a t.1 (t.2 * c)) b c:=rfl
  rw[e,List.length_cons]
  omega
theorem Wt.sumL {s:Scp}:∀ {l:List (Row × Rat)} {N:Nat},Wt s l N→∀ {acc f:F} {a n:Nat},acc.fl a n→sumL s acc (mR l)=some f→f.fl (a+N) (n+3000 * l.length)
 | _,_,.nil,acc,f,a,n,ha,h=>by cases h;exact ha
 | _,_,.cons (r:=r) (q:=q) (l:=l) (k:=k) (g:=g) (N:=B) hk hg hw,acc,f,a,n,ha,h=>by
  have e:mR ((r,q)::l)=⟨r,zC q⟩::mR l:=rfl
  rw[e] at h
  unfold Go.Proofs.YtgcpehdkdnkgeaaGreat.sumL at h
  dsimp only at h
  split at h
  ·cases h
  ·rename_i f0 hf0
   rw[zY] at h
   have:=hw.sumL (ha.add ((hg f0 hf0).scale hk)) h
   exact this.mono (by omega) (by rw[List.length_cons,Nat.mul_succ];omega)
theorem Wt.sum {s:Scp}{l:List (Row × Rat)}{N:Nat}(h:Wt s l N):(s.sum (mR l)).2.fl (1+N) (3000 * l.length):=by
 unfold Scp.sum
 split
 ·exact zero_fl.mono (by omega) (by omega)
 ·split
  ·exact zero_fl.mono (by omega) (by omega)
  ·rename_i f hf
   exact (h.sumL zero_fl hf).mono (by omega) (by omega)
def LB (K:Nat→Nat) (L:List Lem):Prop:=∀ m,m∈L→∃ i:Nat,m.u=i∧Fits (K i) m.v.q
theorem zL7 {K:Nat→Nat}{s:Scp}(hK:∀ i,1≤K i)(h:LB K s.lems)(k:Int)(i:Nat)(up:Bool):Fits (K i) ((s.lem k i up).getD 0):=by
 unfold Scp.lem
 split
 ·split
  ·rename_i m hm
   split
   ·rename_i e
    obtain⟨i',e',hf⟩:=h m (List.mem_of_getElem? hm)
    have:i'=i:=by have:=e.1;omega
    rw[this] at hf
    exact hf
   ·exact wH (hK i)
  ·exact wH (hK i)
 ·exact wH (hK i)
theorem zLE {K:Nat→Nat}{s:Scp}(h:LB K s.lems){i k:Nat}(hk:k=(s.best i).1∨k=(s.best i).2)(h0:k≠0):Fits (K i) (xV s.lems k):=by
 obtain⟨m,hm,hu⟩:=fS hk h0
 obtain⟨i',e',hf⟩:=h m (List.mem_of_getElem? hm)
 have:i'=i:=by omega
 rw[this] at hf
 unfold xV
 rw[hm]
 exact hf
theorem zPW {s:Scp}{x:FQry}(hq:s.q=x.q)(hx:x.small){r:Row}(hr:r.k=1∨r.k=2){f:F}(h:s.fm r=some f):f.fl 6 3000:=by
 unfold Scp.fm at h
 split at h
 ·cases h
 rw[if_pos (by omega)] at h
 unfold Scp.fIn at h
 split at h
 ·split at h
  ·cases hy:s.q.r.lo[r.i.toNat]? with
   | none=>rw[hy] at h;cases h
   | some y =>
    rw[hy] at h
    cases h
    have hm:=List.mem_of_getElem? hy
    rw[hq] at hm
    obtain⟨b,hb,rfl⟩:=List.mem_map.1 hm
    dsimp only
    rw[zY]
    exact ((wO r.i).sub (wY (hx.r.bf b hb).1)).mono (by omega) (by omega)
  ·split at h
   ·cases hy:s.q.r.hi[r.i.toNat]? with
    | none=>rw[hy] at h;cases h
    | some y =>
     rw[hy] at h
     cases h
     have hm:=List.mem_of_getElem? hy
     rw[hq] at hm
     obtain⟨b,hb,rfl⟩:=List.mem_map.1 hm
     dsimp only
     rw[zY]
     exact ((wY (hx.r.bf b hb).2).sub (wO r.i)).mono (by omega) (by omega)
   ·omega
 ·cases h
theorem zM9 {s:Scp}{r:Row}{p v:F}{l u:Option Rat}{K:Nat}{f:F}(hk:1≤K)(hp:p.fl 43 7)(hv:v.fl 1 1)(hl:Fits K (l.getD 0))(hu:Fits K (u.getD 0))(h:unF s r p v l u=some f):f.fl (4 * K+60) 3000:=by
 unfold unF at h
 generalize l.getD 0=lq at *
 generalize u.getD 0=uq at *
 have two:∀ {c:Prop} [Decidable c] {x:F},(if c then some x else none)=some f→x=f:=fun h=>by
  split at h
  ·exact Option.some.inj h
  ·cases h
 split at h
 ·rw[←two h];exact hv.mono (by omega) (by omega)
 split at h
 ·rw[←two h];exact (hv.sub hp).mono (by omega) (by omega)
 split at h
 ·rw[←two h];exact (hp.add zero_fl).mono (by omega) (by omega)
 split at h
 ·rw[←two h];exact (hp.sub hv).mono (by omega) (by omega)
 split at h
 ·rw[←two h];exact (hp.scale wC).mono (by omega) (by omega)
 split at h
 ·rw[←two h];exact (hv.scale wC).mono (by omega) (by omega)
 split at h
 ·rw[←two h];exact (hp.sub (wY hl)).mono (by omega) (by omega)
 split at h
 ·rw[←two h];exact ((wY hu).sub hp).mono (by omega) (by omega)
 split at h
 ·rw[←two h];exact (((hp.sub (wY hl)).scale hu).sub (hv.scale (qE hu hl))).mono (by omega) (by omega)
 ·cases h
theorem zM6 {s:Scp}{x:FQry}{K:Nat→Nat}(hq:s.q=x.q)(hx:x.small)(hK:∀ i,1≤K i)(hL:LB K s.lems){r:Row}{i:Nat}(hr:5≤r.k)(hi:r.i=i){f:F}(h:s.fm r=some f):f.fl (4 * K i+60) 3000:=by
 unfold Scp.fm at h
 split at h
 ·cases h
 rw[if_neg (by omega)] at h
 unfold Scp.fUn at h
 split at h
 ·cases hy:s.q.g.us[r.i.toNat]? with
  | none=>rw[hy] at h;cases h
  | some p =>
   rw[hy] at h
   have hm:=List.mem_of_getElem? hy
   rw[hq] at hm
   obtain⟨b,hb,rfl⟩:=List.mem_map.1 hm
   rw[hi] at h
   dsimp only at h
   rw[vE] at h
   exact zM9 (hK i) (hx.g.uf b hb) (wO _) (zL7 hK hL _ _ _) (zL7 hK hL _ _ _) h
 ·cases h
def cst (K:Nat→Nat) (n v:Nat):Nat:=if v<n then 60 else 13 * K (v - n)+230
theorem eW {s:Scp}{r:Row}{g:Nat}(hg:∀ f,s.fm r=some f→f.fl g 3000):Wt s [(r,1)] (g+6):=(Wt.cons fits_one hg .nil).to (by omega)
theorem zKL {s:Scp}{x:FQry}{K:Nat→Nat}(hq:s.q=x.q)(hx:x.small)(hK:∀ i,1≤K i)(hL:LB K s.lems)(v:Nat):∃ B,B+48 * (s.atLeastM v).length≤cst K x.g.n v∧Wt s (s.atLeastM v) B:=by
 have hn:s.q.g.n=(x.g.n:Int):=by rw[hq];rfl
 unfold Scp.atLeastM cst
 rw[hn]
 by_cases h:v<x.g.n
 ·rw[if_pos (by omega),if_pos h]
  exact⟨_,by simp,eW fun f hf=>zPW hq hx (.inl rfl) hf⟩
 ·rw[if_neg (by omega),if_neg h]
  exact⟨_,by simp;omega,eW fun f hf=>zM6 (i:=v - x.g.n) hq hx hK hL (by show (5:Int)≤5;decide) (by show (v:Int) - x.g.n=_;omega) hf⟩
theorem zSF {s:Scp}{x:FQry}{K:Nat→Nat}(hq:s.q=x.q)(hx:x.small)(hK:∀ i,1≤K i)(hL:LB K s.lems){i lo hi:Nat}{l u:Rat}(hl:Fits (K i) l)(hu:Fits (K i) u) :
  ∃ B,B+48 * (upM i lo hi l u).length≤13 * K i+230∧Wt s (upM i lo hi l u) B:=by
 have hg:∀ (k lo hi:Int),5≤k→∀ f,s.fm ⟨k,i,lo,hi⟩=some f→f.fl (4 * K i+60) 3000:=fun k lo hi hk f hf=>zM6 hq hx hK hL hk rfl hf
 have h1:=hK i
 have hs:=zEX (qE hu hl)
 have hd:Fits (2 * K i+1) (1 / (u - l)):=by
  have e:1 / (u - l)=(u - l)⁻¹:=by rw[Rat.div_def,Rat.one_mul]
  rw[e]
  exact hs.mono (by omega)
 unfold upM
 split
 ·exact⟨_,by simp;omega,eW (hg _ _ _ (by decide))⟩
 ·split
  ·exact⟨_,by simp;omega,Wt.cons fits_one (hg _ _ _ (by decide)) (eW (hg _ _ _ (by decide)))⟩
  ·exact⟨_,by simp;omega,Wt.cons ((xP hd hu).mono (k:=_) (m:=3 * K i+2) (by omega)) (hg _ _ _ (by decide)) (Wt.cons hd (hg _ _ _ (by decide)) .nil)⟩
theorem zHQ {s:Scp}{x:FQry}{K:Nat→Nat}(hq:s.q=x.q)(hx:x.small)(hK:∀ i,1≤K i)(hL:LB K s.lems)(v:Nat){more:List (Row × Rat)}(h:s.atMostM v=some more):∃ B,B+48 * more.length≤cst K x.g.n v∧Wt s more B:=by
 have hn:s.q.g.n=(x.g.n:Int):=by rw[hq];rfl
 unfold Scp.atMostM at h
 unfold cst
 rw[hn] at h
 by_cases hv:v<x.g.n
 ·rw[if_pos (by omega)] at h
  rw[if_pos hv]
  cases h
  exact⟨_,by simp,eW fun f hf=>zPW hq hx (.inr rfl) hf⟩
 ·rw[if_neg (by omega)] at h
  rw[if_neg hv]
  have e:(v:Int) - x.g.n=((v - x.g.n:Nat):Int):=by omega
  rw[e] at h
  split at h
  ·cases h
  ·rename_i hb
   cases h
   exact zSF hq hx hK hL (zLE hL (.inl rfl) (fun g=>hb (.inl g))) (zLE hL (.inr rfl) (fun g=>hb (.inr g)))
def r8 (K:Nat→Nat) (n:Nat):Nat→Nat
 | 0=>0
 | v+1=>r8 K n v+cst K n v
theorem nW {K : Nat → Nat} {n a b : Nat} (h : a ≤ b) : r8 K n a ≤ r8 K n b := by
  induction b with
  | zero => have : a = 0 := by omega
            rw [this]; exact Nat.le_refl _
  | succ b ih =>
    by_cases e : a = b + 1
    · rw [e]; exact Nat.le_refl _
    · have := ih (by omega)
      show _ ≤ r8 K n b + cst K n b
      omega
theorem n7 {s:Scp}{x:FQry}{K:Nat→Nat}(hq:s.q=x.q)(hx:x.small)(hK:∀ i,1≤K i)(hL:LB K s.lems){hi:Nat}:∀ {ts:List (Int × Rat)} {l l':List (Row × Rat)} {N lo:Nat},
  Cn ts→(∀ t,t∈ts→(lo:Int)≤t.1∧t.1<hi)→(∀ t,t∈ts→Fits 46 t.2)→lo≤hi→Wt s l N→s.aboveL ts l=some l'→∃ M,M+r8 K x.g.n lo≤N+r8 K x.g.n hi∧Wt s l' M
 | [],l,l',N,lo,_,_,_,hlh,hw,h=>by
  cases h
  exact⟨N,by have:=nW (K:=K) (n:=x.g.n) hlh;omega,hw⟩
 | t::r,l,l',N,lo,hc,hv,hf,hlh,hw,h=>by
  obtain⟨h1,h2⟩:=hv t List.mem_cons_self
  obtain⟨v,hv1⟩:∃ v:Nat,t.1=v:=⟨t.1.toNat,by omega⟩
  unfold Scp.aboveL at h
  have hm:∀ {more:List (Row × Rat)},(if 0<yB t.2 then some (s.atLeastM t.1) else s.atMostM t.1)=some more→∃ B,B+48 * more.length≤cst K x.g.n v∧Wt s more B:=fun {more} g=>by
   rw[hv1] at g
   split at g
   ·cases g;exact zKL hq hx hK hL v
   ·exact zHQ hq hx hK hL v g
  split at h
  ·cases h
  ·rename_i more hmore
   obtain⟨B,b1,b2⟩:=hm hmore
   obtain⟨M1,m1,m2⟩:=Wt.merge (rX (hf t List.mem_cons_self)) b2 hw
   have hlo:∀ u,u∈r→((v+1:Nat):Int)≤u.1∧u.1<hi:=fun u hu=>by
    have g1:=hc.lt u hu
    have g2:=(hv u (List.mem_cons_of_mem _ hu)).2
    omega
   obtain⟨M,k1,k2⟩:=n7 hq hx hK hL (hi:=hi) (lo:=v+1) hc.tail hlo (fun u hu=>hf u (List.mem_cons_of_mem _ hu)) (by omega) m2 h
   refine⟨M,?_,k2⟩
   have c1:=nW (K:=K) (n:=x.g.n) (a:=lo) (b:=v) (by omega)
   have c2:r8 K x.g.n (v+1)=r8 K x.g.n v+cst K x.g.n v:=rfl
   have c3:(46+2) * more.length=48 * more.length:=rfl
   omega
theorem zM8 (j:Int)(lo hi:Nat)(l u:Rat):(upM j lo hi l u).length≤2:=by unfold upM;split <;> (try split) <;> simp
theorem zEG {s:Scp}{v:Int}{more}(h:s.atMostM v=some more):more.length≤2:=by
 unfold Scp.atMostM at h
 split at h
 ·cases h;simp
 ·split at h
  ·cases h
  ·cases h;exact zM8 _ _ _ _ _
theorem zIY (s:Scp)(v:Int):(s.atLeastM v).length≤2:=by unfold Scp.atLeastM;split <;> simp
theorem tA {s:Scp}:∀ {ts:List (Int × Rat)} {l l':List (Row × Rat)},s.aboveL ts l=some l'→l'.length≤l.length+2 * ts.length
 | [],l,l',h=>by cases h;simp
 | t::r,l,l',h=>by
  unfold Scp.aboveL at h
  split at h
  ·cases h
  ·rename_i more hmore
   have h1:more.length≤2:=by
    split at hmore
    ·cases hmore;exact zIY _ _
    ·exact zEG hmore
   have h2:=zA0 (gU t.2) more l
   have h3:=tA h
   rw[List.length_cons]
   omega
theorem zLB {s:Scp}{x:FQry}{K:Nat→Nat}(hq:s.q=x.q)(hx:x.small)(hK:∀ i,1≤K i)(hL:LB K s.lems){f:F}{hi:Nat}(hf:f.fl 46 7)(hw:f.wf hi){v:Rat × List (Row × Rat)}(h:s.above f=some v) :
  Fits (49+r8 K x.g.n hi) v.1∧(∀ t,t∈v.2→Fits (r8 K x.g.n hi) t.2)∧v.2.length≤14:=by
 unfold Scp.above at h
 cases hl:s.aboveL f.ts [] with
 | none=>rw[hl] at h;cases h
 | some l =>
  rw[hl] at h
  cases h
  obtain⟨M,h1,h2⟩:=n7 hq hx hK hL (hi:=hi) (lo:=0) hw.cn (fun t ht=>by have:=hw.v t ht;omega) hf.t (Nat.zero_le _) .nil hl
  have h3:r8 K x.g.n 0=0:=rfl
  have h4:=tA hl
  have h5:=hf.len
  refine⟨((hf.sub h2.sum).c).mono (by omega),fun t ht=>(h2.mem t ht).mono (by omega),?_⟩
  show l.length≤14
  simp only[List.length_nil] at h4
  omega
def KK:Nat→Nat
 | 0=>230
 | 1=>3450
 | 2=>48530
 | _=>679650
theorem zDU (i:Nat):1≤KK i:=by unfold KK;split <;> decide
theorem zP0 {n j:Nat}(h1:1≤n)(h2:n≤3)(h3:j≤3):49+r8 KK n (n+j)≤KK j:=by
 have:∀ n:Fin 4,∀ j:Fin 4,1≤n.val→49+r8 KK n.val (n.val+j.val)≤KK j.val:=by decide +kernel
 exact this ⟨n,by omega⟩ ⟨j,by omega⟩ h1
theorem zGA (i:Nat):KK i≤679650:=by unfold KK;split <;> decide
structure Lok (L:List Lem) (j:Nat):Prop where
 lb:LB KK L
 len:L.length≤2 * j
 pf:∀ m,m∈L→Msz 679650 m.pf∧m.pf.length≤14
 v:∀ m,m∈L→∃ q,m.v=zC q
theorem zRJ {l:List (Row × Rat)}{k:Nat}(h:∀ t,t∈l→Fits k t.2)(hl:l.length≤14):Msz k (mR l):=⟨by rw[dJ];omega,fun m hm=>by
 obtain⟨t,ht,rfl⟩:=List.mem_map.1 hm
 exact zU (h t ht)⟩
theorem zE6 {x:FQry}(hx:x.small)(hwf:∀ (i:Nat) (f:F),x.g.us[i]?=some f→f.wf ((x.g.n+i:Nat):Int)){path:List Dec}{j:Nat}{f:F}(hfj:x.g.us[j]?=some f){L:List Lem}(h:Lok L j) :
  Lok (L++bndL j ((⟨x.q,path,L⟩:Scp).above f) ((⟨x.q,path,L⟩:Scp).above (f.scale (-1)))) (j+1)∧(∀ v,(⟨x.q,path,L⟩:Scp).above (f.scale (-1))=some v→Fits (2^20) v.1):=by
 obtain⟨hlen,he⟩:=List.getElem?_eq_some_iff.1 hfj
 have hj:j≤3:=by have:=hx.g.us;omega
 have hf:=hx.g.uf _ (List.mem_of_getElem? hfj)
 have hw:=hwf j f hfj
 have ok:=zP0 hx.g.n1 hx.g.n2 hj
 have kl:=zGA j
 have key:∀ {f:F} {v:Rat × List (Row × Rat)},f.fl 46 7→f.wf ((x.g.n+j:Nat):Int)→(⟨x.q,path,L⟩:Scp).above f=some v→Fits (KK j) v.1∧Msz 679650 (mR v.2)∧(mR v.2).length≤14:=fun hf hw hv=>by
  obtain⟨g1,g2,g3⟩:=zLB (s:=⟨x.q,path,L⟩) rfl hx zDU h.lb hf hw hv
  exact⟨g1.mono ok,zRJ (fun t ht=>(g2 t ht).mono (by omega)) g3,by rw[dJ];exact g3⟩
 have kx:=fun v hv=>key (v:=v) (hf.mono (by decide) (by decide)) hw hv
 have ky:=fun v hv=>key (v:=v) ((hf.scale wC).mono (by decide) (by decide)) hw.scale hv
 refine⟨?_,fun v hv=>(ky v hv).1.mono (Nat.le_trans kl (by decide))⟩
 generalize (⟨x.q,path,L⟩:Scp).above f=X at *
 generalize (⟨x.q,path,L⟩:Scp).above (f.scale (-1))=Y at *
 have mem:∀ m,m∈bndL j X Y→m.u=(j:Int)∧Fits (KK j) m.v.q∧Msz 679650 m.pf∧m.pf.length≤14∧∃ q,m.v=zC q:=fun m hm=>by
  unfold bndL at hm
  rcases List.mem_append.1 hm with hm | hm
  ·cases X with
   | none=>exact absurd hm (by simp)
   | some v =>
    have:m=⟨j,false,zC v.1,mR v.2⟩:=by simpa using hm
    obtain⟨g1,g2,g3⟩:=kx v rfl
    rw[this]
    exact⟨rfl,by show Fits _ (zC v.1).q;rw[zY];exact g1,g2,g3,_,rfl⟩
  ·cases Y with
   | none=>exact absurd hm (by simp)
   | some v =>
    have:m=⟨j,true,zC (-v.1),mR v.2⟩:=by simpa using hm
    obtain⟨g1,g2,g3⟩:=ky v rfl
    rw[this]
    exact⟨rfl,by show Fits _ (zC (-v.1)).q;rw[zY];exact sT g1,g2,g3,_,rfl⟩
 refine⟨fun m hm=>?_,?_,fun m hm=>?_,fun m hm=>?_⟩
 ·rcases List.mem_append.1 hm with hm | hm
  ·exact h.lb m hm
  ·exact⟨j,(mem m hm).1,(mem m hm).2.1⟩
 ·rw[List.length_append]
  have:(bndL j X Y).length≤2:=by unfold bndL;cases X <;> cases Y <;> simp
  have:=h.len
  omega
 ·rcases List.mem_append.1 hm with hm | hm
  ·exact h.pf m hm
  ·exact⟨(mem m hm).2.2.1,(mem m hm).2.2.2.1⟩
 ·rcases List.mem_append.1 hm with hm | hm
  ·exact h.v m hm
  ·exact (mem m hm).2.2.2.2
theorem zIC {x:FQry}(hx:x.small)(hwf:∀ (i:Nat) (f:F),x.g.us[i]?=some f→f.wf ((x.g.n+i:Nat):Int)){path:List Dec}:∀ {us:List A} {j:Nat} {L:List Lem},us=(x.g.us.drop j).map fA→Lok L j→Lok (bndG x.q path us j L) (j+us.length)
 | [],j,L,_,h=>h
 | p::r,j,L,hu,h=>by
  have hlen:j<x.g.us.length:=by
   have:(x.g.us.drop j).length≠0:=by
    have:((x.g.us.drop j).map fA).length≠0:=by rw[←hu];simp
    simpa using this
   rw[List.length_drop] at this
   omega
  have hd:x.g.us.drop j=x.g.us[j]::x.g.us.drop (j+1):=(List.drop_eq_getElem_cons hlen)
  rw[hd] at hu
  simp only[List.map_cons,List.cons.injEq] at hu
  obtain⟨hp,hr⟩:=hu
  have e1:p.f=x.g.us[j]:=by rw[hp,vE]
  have hs:=(zE6 hx hwf (path:=path) (j:=j) (f:=x.g.us[j]) (by simp [hlen]) h).1
  unfold bndG
  rw[e1]
  have:=zIC hx hwf (path:=path) (us:=r) (j:=j+1) hr hs
  rw[List.length_cons,show j+(r.length+1)=j+1+r.length by omega]
  exact this
theorem zG0 (raw:List UInt8)(a:Nat)(i:Nat)(f:F)(h:(fdG raw a).1.us[i]?=some f):f.wf (((fdG raw a).1.n+i:Nat):Int):=by
 have:=zDK (raw:=raw) (d:=1) h
 rw[Nat.mul_one] at this
 exact this
theorem zF0 (raw:List UInt8):Lok (fdS raw).bounded.lems 4:=by
 have h:=xA raw 0
 have:=zIC h (zG0 raw 0) (path:=(fdS raw).path) (us:=(fdY raw 0).1.g.us.map fA) (j:=0) (L:=[]) (by simp) ⟨fun m hm=>absurd hm (by simp),by simp,fun m hm=>absurd hm (by simp),fun m hm=>absurd hm (by simp)⟩
 have hl:=h.g.us
 exact⟨this.lb,by
  have:=this.len
  rw[List.length_map] at this
  show (bndG _ _ _ _ _).length≤_
  exact Nat.le_trans this (by omega),this.pf,this.v⟩
theorem zO4 (raw:List UInt8):(fdS raw).bounded.sz (2^20):=by
 have h:=zF0 raw
 have g:=nR raw
 refine⟨g.q.mono (by decide),⟨g.path.len,fun d hd=>(g.path.sz d hd).mono (by decide)⟩,⟨by have:=h.len;omega,fun m hm=>?_,fun m hm=>(h.pf m hm).1.mono (by decide)⟩⟩
 obtain⟨q,hq⟩:=h.v m hm
 obtain⟨i,_,hf⟩:=h.lb m hm
 rw[hq,zY] at hf
 rw[hq]
 exact zU (hf.mono (Nat.le_trans (zGA i) (by decide)))
end Go.Proofs.YtgcpehdkdnkgeaaGreat
