/- A part of the proof: RwE, DvB, DvC, SoA, RoE, CoA, RdA, RdB, LwA, LwB, PlD, BrA, BrB, SpA, SpB, SpC, SpD, SpE, SpF, SpG, SpH, SpI, SpJ, SpK, SpL, SpM, SpN, SpO, SpP, SpQ, SpR, SpS, SpT, SpU, RtA, UtB, SpX, EvA, SxA. -/
import Derived.Test.YtfainocfaddbdaaGreatU24
import Derived.Test.YtfainocfaddbdaaGreatU23
import Derived.Test.YtfainocfaddbdaaGreatU22
import Derived.Laws.StructEq
import Derived.ChangeKeysEq
import Derived.Test.YtfainocfaddbdaaGreatRows
import Derived.Deep.Slices
import Derived.Deep.Strs
import Derived.Lib.SmallJoins
import Derived.KernelRfl
import Derived.ProofKit
import Derived.OpenShut
import Derived.ReadAgain
import Derived.ChangeStays
import Derived.Test.YtfainocfaddbdaaGreatU19
set_option linter.all false
namespace Go.Proofs.YtfainocfaddbdaaGreat
open Go
set_option maxRecDepth 100000
set_option maxHeartbeats 2000000

theorem rN {c:Rat}{k n m:Nat}(hc:Fits m c):∀ {a b:List (Int×Rat)},(∀ t,t∈a->Fits k t.2)->(∀ t,t∈b->Fits n t.2)->∀ u,u∈mrg c a b->Fits (k+n+m+1) u.2
 |[],[],_,_,u,h=>by rw[mrg] at h;exact absurd h (by simp)| a::aa,[],ha,hb,u,h=>by rw[mrg] at h;rcases u7 h with rfl|h;{exact (ha a xD).mono oM};{exact rN hc (fun t ht=>ha t (xI _ ht)) hb u h}
 |[],b::bb,ha,hb,u,h=>by rw[mrg] at h;rcases u7 h with rfl|h;{exact (uB (hb b xD) hc).mono oM};{exact rN hc ha (fun t ht=>hb t (xI _ ht)) u h}
 |a::aa,b::bb,ha,hb,u,h=>by rw[mrg] at h;split at h;{rcases u7 h with rfl|h;{exact (ha a xD).mono oM};{exact rN hc (fun t ht=>ha t (xI _ ht)) hb u h}};{split at h;{rcases u7 h with rfl|h;{exact (uB (hb b xD) hc).mono oM};{exact rN hc ha (fun t ht=>hb t (xI _ ht)) u h}};{rcases u7 h with rfl|h;{exact (gG (ha a xD) (uB (hb b xD) hc)).mono oM};{exact rN hc (fun t ht=>ha t (xI _ ht)) (fun t ht=>hb t (xI _ ht)) u h}}}
termination_by a b=>a.length+b.length
structure F.fl (f:F) (k n:Nat):Prop where
 t:∀ t,t∈f.ts->Fits k t.2
 c:Fits k f.c
 len:f.ts.length<=n
theorem F.fl.fit {f:F}{k n:Nat}(h:f.fl k n)(hn:n<2^38):f.fit k:=⟨⟨xJ h.len hn,h.t⟩,h.c⟩
theorem F.fl.mono {f:F}{k n k' n':Nat}(h:f.fl k n)(hk:k<=k')(hn:n<=n'):f.fl k' n':=⟨fun t ht=>(h.t t ht).mono hk,h.c.mono hk,vS h.len hn⟩
theorem F.fl.merge {f g:F}{c:Rat}{k n k' n' m:Nat}(hf:f.fl k n)(hg:g.fl k' n')(hc:Fits m c):(f.merge g c).fl (k+k'+m+1) (n+n') :=
 ⟨rN hc hf.t hg.t,(gG hf.c (uB hg.c hc)).mono oM,vS (sH _ _ _) (Nat.add_le_add hf.len hg.len)⟩
theorem zUL:F.zero.fl 1 0:=⟨fun t ht=>absurd ht (by simp[F.zero]),wD (by decide),zV _⟩
theorem zSS (v:Int):(F.var v).fl 1 1:=⟨(zNH v).t.fit,(zNH v).c,zV _⟩
theorem F.fl.add {f g:F}{k n k' n':Nat}(hf:f.fl k n)(hg:g.fl k' n'):(f.add g).fl (k+k'+2) (n+n'):=(hf.merge hg fits_one).mono oM (zV _)
theorem F.fl.sub {f g:F}{k n k' n':Nat}(hf:f.fl k n)(hg:g.fl k' n'):(f.sub g).fl (k+k'+2) (n+n'):=(hf.merge hg zGF).mono oM (zV _)
theorem F.fl.scale {f:F}{c:Rat}{k n m:Nat}(hf:f.fl k n)(hc:Fits m c):(f.scale c).fl (k+m+2) n:=(F.fl.merge zUL hf hc).mono oM oM


abbrev fld (s : String) (o b : Nat) : Field := { name := s, type := 3, offset := o, embedded := false, tag := "", pkgPath := "", byteOffset := b }




theorem zUF {f:F}{k n:Nat}(h:f.fl k n)(hn:n<2^38):(fA f).sz k:=(h.fit hn).fA
theorem yAS {b:Bool}{A B:Unit->Prop}(h:b=true)(h1:A ()):Br (fun _=>b) A B:=xK (fun _=>h1) (fun g=>by rw[h] at g;cases g)
theorem zTS {b:Bool}{A B:(Exit->PS->Prop)->Prop}{Q:Exit->PS->Prop}(h:b=true)(h1:A Q):Cut (fun _=>b) A B Q:=z6 (fun _=>h1) (fun g=>by rw[h] at g;cases g)
theorem sX {b:Bool}{A B:(Exit->PS->Prop)->Prop}{Q:Exit->PS->Prop}(h:b=false)(h1:B Q):Cut (fun _=>b) A B Q:=z6 (fun g=>by rw[h] at g;cases g) (fun _=>h1)
def cor:List (Row×Rat)->Row->Rat
 |[],_=>0| t::r,w=>(if t.1=w then t.2 else 0)+cor r w
theorem zNR {q:Rat}:xF q<0↔q<0:=by unfold xF;split <;> (try split) <;> grind
abbrev InW (w:World) (b i:Nat):Prop:=b<w.heap.size
def Cs (w:World):List Value->List D->Prop
 |[],[]=>True| v::vs,d::ds=>(RepD w (InW w) v d/\v.oneCell'=true)/\Cs w vs ds| _,_=>False
theorem Cs.app {w}:∀ {a x b y},Cs w a x->Cs w b y->Cs w (a++b) (x++y)
 |[],[],_,_,_,h=>h| _::_,_::_,_,_,h,g=>⟨h.1,Cs.app h.2 g⟩
theorem Cs.len {w}:∀ {a x},Cs w a x->a.length=x.length
 |[],[],_=>rfl| _::_,_::_,h=>by simp[Cs.len h.2]
theorem Cs.get {w}:∀ {a x},Cs w a x->∀ j,j<x.length->RepD w (InW w) (a.getD j undef) (x.getD j .any)/\(a.getD j undef).oneCell'=true
 |[],[],_,j,hj=>absurd hj (by simp)| _::_,_::_,h,0,_=>h.1| _::_,_::_,h,j+1,hj=>by simpa using Cs.get h.2 j (by simpa using hj)
theorem eQ:∀ (a b:List PV),x6 (a++b)=x6 a++x6 b
 |[],_=>rfl| _::a,b=>by simp[x6,eQ a b]
structure ElR (w:World) (t:TypeId) (k:Nat) {α:Type} (G:α->Prop) (p:α->List PV):Prop where
 sz:Tryz.prog.cellsOf t=k
 rd:∀ {H:Type} {enc:TypeId×Value->H} {sp:Nat->Bool} {n:Nat} {cs:List Value} {x:DataW H×List MemPlace},DataW.trod enc Tryz.prog w 0 sp true n t cs=some x->∃ a,G a/\Cs w cs (x6 (p a))
theorem ElR.map {w t k}{α β:Type}{G:α->Prop}{p:α->List PV}{G':β->Prop}{p':β->List PV}(h:ElR w t k G p)(f:α->β)(hp:∀ a,G a->x6 (p' (f a))=x6 (p a))(hG:∀ a,G a->G' (f a)):ElR w t k G' p' :=
 ⟨h.sz,fun hx=>by obtain⟨a,h1,h2⟩:=h.rd hx;exact⟨f a,hG a h1,by rw[hp a h1];exact h2⟩⟩
theorem zXA {w t}{k:IntKind}(ht:Tryz.prog.underlying t=some (.int k))(hs:Tryz.prog.cellsOf t=1):ElR w t 1 (fun n=>(Lit.int k n).wf=true) (fun n=>[.int k (fun _=>n)]) :=
 ⟨hs,fun {H enc sp n cs x} hx=>by
  cases n with
  |zero=>simp[DataW.trod] at hx| succ n =>
   (unfold DataW.trod at hx;rw[ht] at hx;split at hx <;> simp_all);obtain⟨⟨rfl,h2⟩,_⟩:=hx
   exact⟨_,h2,⟨.int _ _,rfl⟩,trivial⟩⟩
theorem zY7 {w t}(ht:Tryz.prog.underlying t=some .bool)(hs:Tryz.prog.cellsOf t=1):ElR w t 1 (fun _=>True) (fun b=>[.bool (fun _=>b)]) :=
 ⟨hs,fun {H enc sp n cs x} hx=>by
  cases n with
  |zero=>simp[DataW.trod] at hx| succ n =>
   unfold DataW.trod at hx;rw[ht] at hx;split at hx;{exact⟨_,trivial,⟨.bool _,rfl⟩,trivial⟩}
   all_goals simp_all⟩
theorem zZP {b o n:Nat}:(⟨b,o,none⟩:Addr).add n=⟨b,o+n,none⟩:=by unfold Addr.add;split;{rename_i h;rw[h];rfl};{rfl}
theorem rInt (w:World):ElR w 3 1 (fun n=>(Lit.int .i64 n).wf=true) (fun n=>[.int .i64 (fun _=>n)]):=zXA Tryz.underlying3 (by kernel_rfl)
theorem yAI (w:World):ElR w 4 1 (fun _=>True) (fun b=>[.bool (fun _=>b)]):=zY7 Tryz.underlying4 (by kernel_rfl)
theorem rU32 (w:World):ElR w 144 1 (fun _=>True) (fun x:UInt32=>[.int .u32 (fun _=>(x.toNat:Int))]) :=
 (zXA (k:=.u32) Tryz.underlying144 (by kernel_rfl)).map (fun n=>UInt32.ofNat n.toNat) (fun n h=>by
  (have:0<=n/\n<=4294967295:=by simpa[Lit.wf,IntKind.min,IntKind.max,IntKind.signed,IntKind.bits] using h);have e:((UInt32.ofNat n.toNat).toNat:Int)=n:=by rw[UInt32.toNat_ofNat_of_lt' (by show n.toNat<4294967296;omega)];omega
  show [D.int .u32 _]=[D.int .u32 _];rw[e]) (fun _ _=>trivial)
end Go.Proofs.YtfainocfaddbdaaGreat
namespace Go.Proofs.YtfainocfaddbdaaGreat
open Go Go.ChangeShapes Go.WideShapes Go.ChangeAt Go.RowKit
set_option maxRecDepth 100000
theorem own:ownKnob Tryz.prog.godebug=none:=by kernel_rfl
theorem kids:Kids Tryz.prog (·<Tryz.prog.types.size):=kids_rows (by kernel_rfl) (by kernel_rfl)
theorem zY3:∀ t e,t<Tryz.prog.types.size->Tryz.prog.underlying t=some (.slice e)->0<Tryz.prog.cellsOf e:=slices_full_of _ (by kernel_rfl)
theorem n8 {H:Type}{enc:TypeId×Value->H}{W W':World}{sp:Nat->Bool}:∀ {ts:List TypeId} {vs:List Value} {ds:List (DataW H)} {ps:List MemPlace},(∀ t∈ts,t<Tryz.prog.types.size) ->DataW.TrodAll enc Tryz.prog W 0 (fun _=>true) true ts vs ds ps->(∀ p∈ps,W.sameAt W' p)->(∀ p∈ps,sp p.block=true)->DataW.TrodAll enc Tryz.prog W' 0 sp true ts vs ds ps
 |[],[],[],_,_,h,_,_=>h| _::_,_::_,_::_,_,hT,⟨p,q,⟨n,h1⟩,h2,e⟩,hs,hb=>by subst e;refine⟨p,q,⟨n,?_⟩,n8 (fun t ht=>hT t (xI _ ht)) h2 (fun x hx=>hs x (c9 _ hx)) (fun x hx=>hb x (c9 _ hx)),rfl⟩;exact DataW.trod_respare kids zY3 n _ _ _ (hT _ xD) (DataW.trod_carry n _ _ _ h1 (fun x hx=>hs x (dB _ hx))) (fun x hx=>hb x (dB _ hx))
theorem zLP {W W':World}(hs:W.heap.size<=W'.heap.size)(ho:W'.os=W.os)(hu:W'.output=W.output)(hb:∀ b,b<W.heap.size->W'.heap[b]?=W.heap[b]?)(may:MemPlace->Prop):W.keptBut W' may:=by
 refine⟨ho,hu,fun i hi=>?_⟩;rw[hb i hi];have:W.heap[i]?=some W.heap[i]:=by simp[hi]
 rw[this];cases W.heap[i] with
 |cells c t fr=>exact⟨rfl,rfl,rfl,fun _ _=>rfl⟩| map es clock=>exact .inr ⟨rfl,rfl⟩| _=>rfl
theorem zR0 {s:ChangeSpec}{fn:Func}{H:Type}{enc:TypeId×Value->H}{W:World}{args:Array Value}{ds gs:List (DataW H)}{before:List MemPlace}{fresh handsOn again:Bool} (hv:s.vars=[]) (hres:fn.resultTypes=#[4]) (hsp:s.fn H ds={ results:=[.lit (.bool true)],args:=ds }) (hp:∀ t∈fn.params.toList,t<Tryz.prog.types.size)
  (hW:DataW.Whole enc Tryz.prog fn.params.toList s.vars false W args.toList ds gs before)
  {f:FuncId} {pvs:List PV} (hS:zG f pvs (.bool (fun _=>true))) (hn:args.size=pvs.length) (hrep:∀ j,j<pvs.length->Rep W (InW W) β0 (args.getD j undef) (pvs.getD j .any)) :
  Calls Tryz.prog f args W fun e W'=>∃ v,e=.returned v/\s.post enc Tryz.prog fn false fresh handsOn again W args v W':=by
 have hgo:=hS.go W (InW W) β0 args (fun b i h=>h) zTG hn hrep;rw[vJ] at hgo;refine hgo.mono fun e W' ⟨v,S',β',he,hl,hr,_⟩=>?_;subst he;have hvt:v=.bool true:=by
  cases hr with
  |c hf h=>cases h;rfl
 subst hvt;refine⟨_,rfl,?_⟩;have hsame:∀ b,b<W.heap.size->W'.heap[b]?=W.heap[b]?:=fun b hb=>hl.same b hb (fun⟨n,o,h,_⟩=>by simp at h);have hlt:=hW.lt;have hW0:=hW;obtain⟨p,q,hA,hV,rfl,hfz,hnd⟩:=hW;rw[hv] at hV;obtain⟨rfl,rfl⟩:=trodVars_none hV;rw[kC] at hlt hfz hW0;have hat:∀ x∈p,W.sameAt W' x:=fun x hx=>by
  have:=hlt x hx;cases x with
  |cell b o=>show W'.cell? _=W.cell? _;unfold World.cell?;rw[hsame b this]| map b=>exact hsame b this
 have hargs:∀ sp:Nat->Bool,(∀ x∈p,sp x.block=true)->DataW.TrodAll enc Tryz.prog W' 0 sp true fn.params.toList args.toList ds p:=fun sp h=>n8 hp hA hat h;have hold:∀ x∈p,(fun b=>decide (b<W.heap.size)) x.block=true:=fun x hx=>by simpa using hlt x hx
 have hrs:∀ (b:Nat) (sp:Nat->Bool) (hd:Bool),DataW.TrodAll enc Tryz.prog W' b sp hd fn.resultTypes.toList ((Value.bool true).resultList fn.resultTypes.size) [.lit (.bool true)] []:=fun b sp hd=>by rw[hres];exact⟨[],[],shut_bool Tryz.underlying4 true,rfl,rfl⟩
 have hfz':W'.noneFrozen p:=fun b o h=>by have g:=hfz b o h;have hb:b<W.heap.size:=hlt _ h;unfold World.frozen? at g ⊢;rw[hsame b hb];exact g
 refine⟨ds,[],p,[],p,[],hW0,?_,?_,?_,?_,fun _=>⟨?_,ds.cons (.lit (.bool true)),[],p,⟨p,[],?_,?_,by simp,hfz',fun h=>by cases h⟩,fun x hx _=>hx⟩⟩;{rw[kC,hsp];exact hrs _ _ _};{rw[kC,hsp];exact hargs _ hold};{rw[kC,hsp,hv];rfl};{exact zLP hl.size hl.os hl.output hsame _};{exact ok_one hres rfl (okWide_bool_mk Tryz.underlying4 _)};{exact trodAll_append (hargs _ (fun _ _=>rfl)) (hrs _ _ _)};{rw[hv];rfl}
end Go.Proofs.YtfainocfaddbdaaGreat
namespace Go.Proofs.YtfainocfaddbdaaGreat
open Go
set_option maxRecDepth 100000
set_option maxHeartbeats 4000000
def na (raw:List UInt8) (a:Nat):Nat:=if a<raw.length then a+1 else a

structure F.wf (f:F) (n:Int):Prop where
 cn:Cn f.ts
 v:∀ t,t∈f.ts->0<=t.1/\t.1<n
theorem F.wf.merge {f g:F}{c:Rat}{n:Int}(hf:f.wf n)(hg:g.wf n):(f.merge g c).wf n:=⟨hf.cn.mrg hg.cn,fun t ht=>by
 rcases fW ht with⟨u,hu,e⟩|⟨u,hu,e⟩;{rw[<-e];exact hf.v u hu}
 ·rw[<-e];exact hg.v u hu⟩
theorem F.wf.var {v n:Int}(h1:0<=v)(h2:v<n):(F.var v).wf n:=⟨Cn.nil.cons (by simp) (by show (1:Rat)≠0;decide),fun t ht=>by
 have:t=(v,1):=by simpa[F.var] using ht
 rw[this];exact⟨h1,h2⟩⟩
theorem F.wf.zero0 (n:Int):(⟨[],0⟩:F).wf n:=⟨Cn.nil,fun t ht=>absurd ht (by simp)⟩
theorem F.wf.scale {f:F}{c:Rat}{n:Int}(hf:f.wf n):(f.scale c).wf n:=F.wf.merge (F.wf.zero0 n) hf
theorem F.wf.add {f g:F}{n:Int}(hf:f.wf n)(hg:g.wf n):(f.add g).wf n:=hf.merge hg
theorem F.wf.mono {f:F}{n m:Int}(hf:f.wf n)(h:n<=m):f.wf m:=⟨hf.cn,fun t ht=>⟨(hf.v t ht).1,by have:=(hf.v t ht).2;omega⟩⟩


def KK:Nat->Nat
 |0=>230| 1=>3450| 2=>48530| _=>679650
theorem zWJ {N:Int}:∀ {ts:List (Int×Rat)} {p:Int},Cn ts->(∀ t,t∈ts->p<t.1/\0<=t.1/\t.1<N)->vT N p (tR ts)=true
 |[],_,_,_=>rfl| t::r,p,hc,h=>by obtain⟨h1,h2,h3⟩:=h t xD;have ih:=zWJ (N:=N) (p:=t.1) hc.tail (fun u hu=>⟨hc.lt u hu,(h u (xI _ hu)).2⟩);show (decide (0<=t.1)&&decide (t.1<N)&&decide (p<t.1)&&decide ((zJ t.2).q≠0)&&(zJ t.2).ok&&vT N t.1 (tR r))=true;rw[ih,yY,nF,decide_eq_true h1,decide_eq_true h2,decide_eq_true h3,decide_eq_true hc.hd];rfl
theorem F.wf.valid {f:F}{n:Int}(h:f.wf n):(fA f).valid n=true:=by have h1:=zWJ (N:=n) (p:=-1) h.cn (fun t ht=>⟨by have:=(h.v t ht).1;omega,(h.v t ht).1,(h.v t ht).2⟩);show (vT n (-1) (tR f.ts)&&(zJ f.c).ok)=true;rw[h1,nF];rfl
theorem zZO {l:List F}{n:Int}(h:∀ f,f∈l->f.wf n):(l.map fA).all (A.valid n)=true:=by rw[f8];intro a ha;obtain⟨f,hf,rfl⟩:=yS.1 ha;exact (h f hf).valid
theorem zSG (f:F)(c:Rat)(v:Int):co (f.scale c).ts v=co f.ts v*c:=by show co (mrg c [] f.ts) v=_;rw[cX];simp only[co];grind
theorem zZE (f g:F)(v:Int):co (f.add g).ts v=co f.ts v+co g.ts v:=by show co (mrg 1 f.ts g.ts) v=_;rw[cX];grind
theorem zM7 (f g:F)(v:Int):co (f.sub g).ts v=co f.ts v-co g.ts v:=by show co (mrg (-1) f.ts g.ts) v=_;rw[cX];grind
theorem Cn.nil_of {l:List (Int×Rat)}(h:Cn l)(h0:∀ v,co l v=0):l=[]:=Cn.ext h Cn.nil (fun v=>by rw[h0 v];rfl)
def dlt (v w:Int):Rat:=if v=w then 1 else 0
theorem zTU (v w:Int):co (F.var v).ts w=dlt v w:=by show (if v=w then 1 else 0)+(0:Rat)=_;unfold dlt;grind



theorem F.wf.sub {f g:F}{n:Int}(hf:f.wf n)(hg:g.wf n):(f.sub g).wf n:=hf.merge hg







def evX (X:Int->Rat):List (Int×Rat)->Rat
 |[]=>0| t::r=>t.2*X t.1+evX X r
def F.at (f:F) (X:Int->Rat):Rat:=f.c+evX X f.ts
theorem zE5 (X:Int->Rat)(v:Int)(q:Rat)(r):evX X (pc v q r)=q*X v+evX X r:=by unfold pc;split;{rename_i h;rw[h];grind};{rfl}
theorem nN (X:Int->Rat)(c:Rat):∀ (a b:List (Int×Rat)),evX X (mrg c a b)=evX X a+evX X b*c
 |[],[]=>by rw[mrg];simp only[evX];grind| a::aa,[]=>by rw[mrg,zE5,nN X c aa []];simp only[evX];grind| [],b::bb=>by rw[mrg,zE5,nN X c [] bb];simp only[evX];grind| a::aa,b::bb=>by
  rw[mrg];split;{rw[zE5,nN X c aa (b::bb)];simp only[evX];grind}
  ·split;{rw[zE5,nN X c (a::aa) bb];simp only[evX];grind}
   ·(have:a.1=b.1:=by omega);rw[zE5,nN X c aa bb];simp only[evX,this];grind
termination_by a b=>a.length+b.length
theorem zEG (X:Int->Rat)(f g:F)(c:Rat):(f.merge g c).at X=f.at X+g.at X*c:=by show f.c+g.c*c+evX X (mrg c f.ts g.ts)=f.c+evX X f.ts+(g.c+evX X g.ts)*c;rw[nN];grind
theorem zZN (X:Int->Rat)(f g:F):(f.add g).at X=f.at X+g.at X:=by unfold F.add;rw[zEG];grind
theorem zIP (X:Int->Rat)(f g:F):(f.sub g).at X=f.at X-g.at X:=by unfold F.sub;rw[zEG];grind
theorem zHZ (X:Int->Rat):F.zero.at X=0:=by show (0:Rat)+0=0;grind
theorem zEF (X:Int->Rat)(f:F)(c:Rat):(f.scale c).at X=f.at X*c:=by unfold F.scale;rw[zEG];show F.zero.at X+_=_;rw[zHZ];grind
theorem zNB (X:Int->Rat)(v:Int):(F.var v).at X=X v:=by show (0:Rat)+(1*X v+0)=X v;grind
theorem yAH {f g:F}(hf:Cn f.ts)(hg:Cn g.ts){k n k' n':Nat}(h1:f.fl k n)(h2:g.fl k' n')(hk:k<=2^26)(hk':k'<=2^26)(hn:n<=2^35)(hn':n'<=2^35):zG 29 [fv f,fv g] (fv (f.add g)):=by have h:=zS7 f.ts (zJ f.c) (fA g) hf (by rw[show (fA g).ts=tR g.ts from rfl,zMB];exact hg) ⟨by have:=h1.len;omega,fun t ht=>(h1.t t ht).mono oM⟩ ((yF h1.c).mono oM) ((zUF h2 oM).mono oM) (by have:=h1.len;have:=h2.len;rw[show (fA g).ts=tR g.ts from rfl,uZ];omega);rw[f_fA,yY] at h;exact h
theorem zWY {f g:F}(hf:Cn f.ts)(hg:Cn g.ts){k n k' n':Nat}(h1:f.fl k n)(h2:g.fl k' n')(hk:k<=2^26)(hk':k'<=2^26)(hn:n<=2^35)(hn':n'<=2^35):zG 33 [fv f,fv g] (fv (f.sub g)):=by have h:=zYB f.ts (zJ f.c) (fA g) hf (by rw[show (fA g).ts=tR g.ts from rfl,zMB];exact hg) ⟨by have:=h1.len;omega,fun t ht=>(h1.t t ht).mono oM⟩ ((yF h1.c).mono oM) ((zUF h2 oM).mono oM) (by have:=h1.len;have:=h2.len;rw[show (fA g).ts=tR g.ts from rfl,uZ];omega);rw[f_fA,yY] at h;exact h
theorem zN1 {f:F}{q:Rat}{k n m:Nat}(h1:f.fl k n)(hq:Fits m q)(hk:k<=2^31)(hn:n<=2^35)(hm:m<=2^31):zG 27 [fv f,rv (zJ q)] (fv (f.scale q)):=by have h:=zJF (fA f) (zJ q) ((zUF h1 oM).mono oM) ((yF hq).mono oM);rw[f_fA,yY] at h;exact h
theorem zW3 {x:R}(h:x.ok=true):zJ x.q=x:=(of_decide_eq_true h).symm
theorem zI3 {vars:Int}:∀ {ts:List (Int×R)} {p:Int},vT vars p ts=true->tR (tq ts)=ts/\Cn (tq ts)/\∀ t,t∈tq ts->p<t.1
 |[],p,_=>⟨rfl,Cn.nil,fun t h=>absurd h (by simp[tq])⟩| t::r,p,h=>by rw[zCO] at h;simp only[y9,decide_eq_true_eq] at h;obtain⟨⟨⟨⟨⟨h1,h2⟩,h3⟩,h4⟩,h5⟩,h6⟩:=h;obtain⟨g1,g2,g3⟩:=zI3 h6;refine⟨?_,?_,fun u hu=>?_⟩;{show (t.1,zJ t.2.q)::tR (tq r)=t::r;rw[g1,zW3 h5]};{exact Cn.cons (t:=(t.1,t.2.q)) g2 g3 h4};{rcases z9.1 hu with rfl|hu;{exact h3};{have:=g3 u hu;omega}}
theorem zH3 {a:A}{vars:Int}(h:a.valid vars=true):fA a.f=a/\Cn a.f.ts:=by unfold A.valid at h;simp only[y9] at h;obtain⟨g1,g2,_⟩:=zI3 h.1;refine⟨?_,g2⟩;obtain⟨ts,c⟩:=a;show (⟨tR (tq ts),zJ c.q⟩:A)=⟨ts,c⟩;rw[g1,zW3 h.2]

def xr (l:List Rat):Int->Rat:=fun v=>(l[v.toNat]?).getD 0
def vAll:List F->List Rat->List Rat
 |[],l=>l| f::r,l=>vAll r (l++[maxQ (f.at (xr l)) 0])
theorem zI4:∀ (us:List F) (l:List Rat) (i:Nat),i<l.length->(vAll us l)[i]?=l[i]?
 |[],l,i,_=>rfl| f::r,l,i,h=>by unfold vAll;rw[zI4 r _ i (by simp;omega),uD h]
theorem zEH {f:F}{X Y:Int->Rat}(h:∀ t,t∈f.ts->X t.1=Y t.1):f.at X=f.at Y:=by
 unfold F.at
 congr 1;generalize f.ts=l at *
 induction l with
 |nil=>rfl| cons t r ih =>
  unfold evX;rw[h t xD,ih fun u hu=>h u (xI _ hu)]
theorem zSQ {l:List Rat}{i:Nat}{q:Rat}(h:l[i]?=some q):xr l i=q:=by unfold xr;rw[xN,h];rfl
theorem yAV {us:List F}{l:List Rat}{f:F}(hw:f.wf (l.length:Int)):f.at (xr (vAll us l))=f.at (xr l):=zEH fun t ht=>by have h:=hw.v t ht;unfold xr;rw[zI4 us l _ oM]
def evS (f:F) (X:Int->Rat) (i:Nat):Rat:=f.c+evX X (f.ts.take i)
theorem zKD (X:Int->Rat)(t:Int×Rat):∀ l,evX X (l++[t])=evX X l+t.2*X t.1
 |[]=>by show t.2*X t.1+0=0+t.2*X t.1;grind| u::r=>by rw[mM];unfold evX;rw[zKD X t r];grind
theorem zKE (f:F)(X:Int->Rat):evS f X 0=f.c:=by unfold evS;rw[List.take_zero];show f.c+0=f.c;grind
theorem zKF {f:F}{X:Int->Rat}{i:Nat}{t:Int×Rat}(h:f.ts[i]?=some t):evS f X (i+1)=evS f X i+t.2*X t.1:=by unfold evS;rw[show f.ts.take (i+1)=f.ts.take i++[t] by rw[rA,h];rfl,zKD];grind
theorem zOP (f:F)(X:Int->Rat):evS f X f.ts.length=f.at X:=by unfold evS;rw[s6];rfl
def FX (m:Nat) (X:Int->Rat) (f:F):Prop:=∀ t,t∈f.ts->Fits m (X t.1)
theorem zD7 {f:F}{X:Int->Rat}{k n m:Nat}(hf:f.fl k n)(hx:FX m X f):∀ i,Fits (k+(k+m+1)*i) (evS f X i)
 |0=>by rw[zKE];exact hf.c.mono oM| i+1=>by
  have ih:=zD7 hf hx i;cases h:f.ts[i]? with
  |none =>
   (have e:evS f X (i+1)=evS f X i:=by unfold evS;rw[yN (by have:=List.getElem?_eq_none_iff.1 h;omega),yN (List.getElem?_eq_none_iff.1 h)]);rw[e];exact ih.mono (by rw[zBV];omega)
  |some t =>
   rw[zKF h];have hm:=zZ h;exact (gG ih (uB (hf.t t hm) (hx t hm))).mono (by rw[zBV];omega)
theorem zWH {l:List Rat}{m:Nat}{f:F}(hw:f.wf (l.length:Int))(hl:∀ q,q∈l->Fits m q):FX m (xr l) f:=fun t ht=>by
 have h:=hw.v t ht;obtain⟨q,hq⟩:=kT (l:=l) (i:=t.1.toNat) oM;have e:t.1=((t.1.toNat:Nat):Int):=by omega
 rw[e,zSQ hq];exact hl q (zZ hq)
theorem zZ3 (f:F)(l:List Rat){k n m:Nat}(hf:f.fl k n)(hw:f.wf (l.length:Int))(hl:∀ q,q∈l->Fits m q)(hk:k<=2^30)(hm:m<=2^30)(hn:k+(k+m+1)*n<=2^30)(hn2:n<=2^30)(hll:l.length<2^40):zG 149 [av (fA f),rlv (l.map zJ)] (.tup [rv (zJ (f.at (xr l))),.int .i64 (fun _=>0)]):=by
 refine sF Tryz.f149 ?_;have fx:=zWH hw hl;have hi:∀ (i:Nat) t,f.ts[i]?=some t->∃ j:Nat,t.1=(j:Int)/\j<l.length/\(l.map zJ)[j]?=some (zJ (xr l t.1)):=fun i t h=>by
  (have hv:=hw.v t (zZ h);obtain⟨q,hq⟩:=kT (l:=l) (i:=t.1.toNat) oM;have e:t.1=((t.1.toNat:Nat):Int):=by omega);refine⟨t.1.toNat,e,by omega,?_⟩
  rw[vU,hq];rw[e,zSQ hq];rfl
 have cm:∀ t,t∈f.ts->zG 28 [rv (zJ t.2),rv (zJ (xr l t.1))] (rv (zJ (t.2*xr l t.1))):=fun t ht=>by have:=s77 (zJ t.2) (zJ (xr l t.1)) ((yF (hf.t t ht)).mono oM) ((yF (fx t ht)).mono oM);rw[yY,yY] at this;exact this
 have ca:∀ (i:Nat) t,f.ts[i]?=some t->zG 32 [rv (zJ (evS f (xr l) i)),rv (zJ (t.2*xr l t.1))] (rv (zJ (evS f (xr l) (i+1)))):=fun i t h=>by have hm':=zZ h;have hlt:=(v4.1 h).1;have hle:=hf.len;have e:(k+m+1)*i<=(k+m+1)*n:=wW _ oM;have:=s44 (zJ (evS f (xr l) i)) (zJ (t.2*xr l t.1)) ((yF (zD7 hf fx i)).mono oM) ((yF (uB (hf.t t hm') (fx t hm'))).mono (by have:(k+m+1)*1<=(k+m+1)*n:=wW _ oM;omega));rw[yY,yY,<-zKF h] at this;exact this
 have hlen:f.ts.length<=2^30:=vS hf.len hn2;have e0:=zKE f (xr l);have e9:=zOP f (xr l);obtain⟨V,hV⟩:∃ V:Nat->R,∀ i,zJ (evS f (xr l) i)=V i:=⟨_,fun _=>rfl⟩;have hav:av (fA f)=.agg [tsv (tR f.ts),.bool (fun _=>(V 0).neg),nat (V 0).num,nat (V 0).den]:=by rw[<-hV,e0];rfl
 rw[<-e9,hV,hav];simp only[hV] at ca;have hT:∀ (i:Nat) t,f.ts[i]?=some t->(tR f.ts)[i]?=some (t.1,zJ t.2):=fun i t h=>by simp[tR,vU,h]
 have hTl:(tR f.ts).length=f.ts.length:=uZ _;have hxl:(l.map zJ).length=l.length:=y8 ..;have facts:∀ i,i<f.ts.length->∃ (z:Int) (v:Nat) (c x y:R),z=(v:Int)/\(tR f.ts)[i]?=some (z,c)/\(l.map zJ)[v]?=some x/\v<(l.map zJ).length/\zG 28 [rv c,rv x] (rv y)/\zG 32 [rv (V i),rv y] (rv (V (i+1))):=fun i h=>by obtain⟨t,ht⟩:=kT h;obtain⟨j,h1,h2,h3⟩:=hi i t ht;exact⟨t.1,j,zJ t.2,_,_,h1,hT i t ht,h3,by rw[hxl];exact h2,cm t (zZ ht),ca i t ht⟩
 clear hi cm ca hT hav hV e0 e9 fx hl hw hf;generalize f.ts.length=N at *
 generalize tR f.ts=T at *
 generalize l.map zJ=X at *
 cbv;refine zX (σ:=Nat) (fun i=>⟨[(1,rlv X),(2,.ptr 2 0),(4,.ptr 4 0),(6,.ptr 6 0),(7,.int .i64 (fun _=>(i:Int)))],
   [(2,.box [tsv T,.bool (fun _=>(V 0).neg),nat (V 0).num,nat (V 0).den]),(4,.box [.ff,.nil,.nil]),(6,.box [.bool (fun _=>(V i).neg),nat (V i).num,nat (V i).den])]⟩)
  (fun i=>i<=N) (fun i=>N-i) 0 (wH _) (wkZ) ?_
 intro i hi';cbv;refine zD (fun h=>?_) (fun h=>?_)
 ·(have hlt:i<N:=by rw[zK,hTl] at h;(try dsimp only [zI] at *);omega);obtain⟨z,v,c,x,y,g0,g1,g2,g3,c1,c2⟩:=facts i hlt
  clear facts;generalize hV1:V (i+1)=V1 at *
  generalize hVi:V i=Vi at *
  cbv;refine xC g1 kG jE ?_;cbv;refine zXD om ?_;cbv;refine cW (by rw[zK];(try dsimp only [zI] at *);omega) ?_;cbv;refine zT 10 (by cbv) ?_;cbv;refine zOH g2 g0 eE zEZ ?_;cbv;refine dA c1 ?_;cbv;refine dA c2 ?_;cbv;refine⟨zC om om,i+1,(by show i+1<=N;omega),(by show N-(i+1)<N-i;omega),.le okZ (by cbv;rw[hV1];repeat' first|exact trivial|exact lR|apply zN) rfl⟩
 ·(have hN':i=N:=by rw[zK,hTl] at h;(try dsimp only [zI] at *);omega);rw[hN']
  cbv
  (refine rC ?_;cbv)
  exact okA
def dot (X:Nat->Rat):List Nat->List Rat->Rat
 |[],l=>l.headD 0| v::vs,l=>l.headD 0*X v+dot X vs l.tail
def dL (a:Rat):List Rat->List Rat->List Rat
 |x::l,y::m=>(x+a*y)::dL a l m| l,_=>l
theorem f7 (a:Rat):∀ l m:List Rat,(dL a l m).length=l.length
 |[],_=>by unfold dL;rfl
 |x::l,[]=>by unfold dL;rfl
 |x::l,y::m=>by unfold dL;rw[List.length_cons,List.length_cons,f7 a l m]
theorem oR (a:Rat):∀ (l m:List Rat) (j:Nat),l.length=m.length->(dL a l m).getD j 0=l.getD j 0+a*m.getD j 0
 |[],[],j,_=>by simp[dL];grind| x::l,[],j,h=>by simp at h| [],y::m,j,h=>by simp at h| x::l,y::m,0,h=>by simp[dL]| x::l,y::m,j+1,h=>by have:=oR a l m j (by simpa using h);simpa[dL] using this
theorem zKN (X:Nat->Rat)(a:Rat):∀ (nb:List Nat) (l m:List Rat),l.length=nb.length+1->m.length=nb.length+1->dot X nb (dL a l m)=dot X nb l+a*dot X nb m
 |[],[x],[y],_,_=>by simp[dot,dL]| [],[],_,h,_=>by simp at h| [],x::y::l,_,h,_=>by simp at h| [],[x],[],_,h=>by simp at h| [],[x],y::z::m,_,h=>by simp at h| v::vs,[],_,h,_=>by simp at h| v::vs,x::l,[],_,h=>by simp at h| v::vs,x::l,y::m,h1,h2=>by have:=zKN X a vs l m (by simpa using h1) (by simpa using h2);simp only[dot,dL,List.headD_cons,List.tail_cons];rw[this];grind
theorem oI (X:Nat->Rat)(b:Nat)(k:Rat):∀ (nb:List Nat) (l:List Rat) (e:Nat),l.length=nb.length+1->e<nb.length->dot X (nb.set e b) (l.set e k)=dot X nb l-l.getD e 0*X (nb.getD e 0)+k*X b
 |[],_,e,_,h=>by simp at h| v::vs,[],e,h,_=>by simp at h| v::vs,x::l,0,_,_=>by simp[dot];grind| v::vs,x::l,e+1,h1,h2=>by have:=oI X b k vs l e (by simpa using h1) (by simpa using h2);simp only[List.set_cons_succ,dot,List.headD_cons,List.tail_cons,List.getD_cons_succ];rw[this];grind
theorem fM {X Y:Nat->Rat}:∀ {nb:List Nat} {l:List Rat},(∀ v,v∈nb->X v=Y v)->dot X nb l=dot Y nb l
 |[],l,_=>rfl| v::vs,l,h=>by simp only[dot];rw[h v List.mem_cons_self,fM (nb:=vs) fun w hw=>h w (List.mem_cons_of_mem _ hw)]
theorem cL {X:Nat->Rat}:∀ {nb:List Nat} {l:List Rat},(∀ v,v∈nb->X v=0)->dot X nb l=l.getD nb.length 0
 |[],l,_=>by cases l <;> rfl
 |v::vs,l,h=>by
  (simp only[dot];rw[h v List.mem_cons_self,cL (nb:=vs) fun w hw=>h w (List.mem_cons_of_mem _ hw)];cases l <;> simp);{grind}
  {grind}
theorem pQ {X:Nat->Rat}:∀ {nb:List Nat} {l:List Rat} {e:Nat},nb.Nodup->e<nb.length->(∀ j,j<nb.length->j≠e->X (nb.getD j 0)=0)->dot X nb l=l.getD e 0*X (nb.getD e 0)+l.getD nb.length 0
 |[],_,e,_,h,_=>by simp at h| v::vs,l,0,hn,_,h=>by simp only[dot];rw[cL (nb:=vs) fun w hw=>by obtain⟨j,hj,rfl⟩:=List.getElem_of_mem hw;have:=h (j+1) (by simpa using hj) (by omega);simpa[hj] using this];cases l <;> simp
 |v::vs,l,e+1,hn,he,h=>by
  simp only[dot];rw[pQ (nb:=vs) (e:=e) (List.nodup_cons.1 hn).2 (by simpa using he) fun j hj hne=>by have:=h (j+1) (by simpa using hj) (by omega);simpa using this]
  (have h0:=h 0 (by simp) (by omega);simp only[List.getD_cons_zero] at h0;rw[h0];cases l <;> simp);{grind}
  {grind}
def sbs (l:List Rat) (e:Nat) (form:List Rat):List Rat:=dL (l.getD e 0) (l.set e 0) form
theorem zCR (l:List Rat)(e:Nat)(form:List Rat):(sbs l e form).length=l.length:=by unfold sbs;rw[f7,List.length_set]
theorem zRE {l:List Rat}{e:Nat}{form:List Rat}(h:l.getD e 0=0)(hl:l.length=form.length):sbs l e form=l:=by
 unfold sbs;rw[h];apply List.ext_getElem?;intro j;have h1:=oR 0 (l.set e 0) form j (by rw[List.length_set];exact hl);have hlen:=f7 0 (l.set e 0) form;rw[List.length_set] at hlen;by_cases hj:j<l.length
 ·(rw[List.getElem?_eq_getElem (by omega),List.getElem?_eq_getElem hj];congr 1;rw[List.getD_eq_getElem?_getD,List.getElem?_eq_getElem (by omega)] at h1;have h2:(l.set e 0).getD j 0=l[j]:=by rw[List.getD_eq_getElem?_getD,List.getElem?_set];by_cases he:e=j;{subst he;rw[if_pos rfl,if_pos hj];rw[List.getD_eq_getElem?_getD,List.getElem?_eq_getElem hj] at h;exact h.symm};{rw[if_neg he,List.getElem?_eq_getElem hj];rfl});rw[h2] at h1;simp only[Option.getD_some] at h1;rw[h1];grind
 {rw[List.getElem?_eq_none (by omega),List.getElem?_eq_none (by omega)]}
def qB (old:List Rat) (e:Nat):List Rat:=(old.map fun c=>-c/old.getD e 0).set e (1/old.getD e 0)
theorem bN (old:List Rat)(e:Nat):(qB old e).length=old.length:=by unfold qB;rw[List.length_set,List.length_map]
theorem zHU (X:Nat->Rat)(k:Rat):∀ (nb:List Nat) (l:List Rat),dot X nb (l.map fun c=>c*k)=dot X nb l*k
 |[],l=>by cases l <;> simp[dot]
 |v::vs,l=>by
  simp only[dot];cases l with
  |nil =>
   have:=zHU X k vs [];simp only[List.map_nil,List.headD_nil,List.tail_nil] at this ⊢;rw[this];grind
  |cons x l =>
   have:=zHU X k vs l;simp only[List.map_cons,List.headD_cons,List.tail_cons];rw[this];grind
theorem zP8 {X:Nat->Rat}{nb:List Nat}{old:List Rat}{e b:Nat}(hl:old.length=nb.length+1)(he:e<nb.length)(h0:old.getD e 0≠0):dot X (nb.set e b) (qB old e)=(X b-(dot X nb old-old.getD e 0*X (nb.getD e 0)))/old.getD e 0:=by
 unfold qB;have e1:(old.map fun c=>-c/old.getD e 0)=old.map fun c=>c*(-1/old.getD e 0):=by apply List.map_congr_left;intro c _;rw[Rat.div_def,Rat.div_def];grind
 rw[oI X b _ nb _ e (by rw[List.length_map];exact hl) he,e1,zHU];have e2:(old.map fun c=>c*(-1/old.getD e 0)).getD e 0=old.getD e 0*(-1/old.getD e 0):=by
  rw[List.getD_eq_getElem?_getD,List.getElem?_map,List.getD_eq_getElem?_getD];cases old[e]? with
  |none=>simp| some c=>rfl
 rw[e2];generalize old.getD e 0=k at *
 rw[Rat.div_def,Rat.div_def,Rat.div_def];have hk:k*k⁻¹=1:=Rat.mul_inv_cancel k h0;grind
theorem zHT {X:Nat->Rat}{nb:List Nat}{l form:List Rat}{e b:Nat}(hl:l.length=nb.length+1)(hf:form.length=nb.length+1)(he:e<nb.length)(hX:X (nb.getD e 0)=dot X (nb.set e b) form):dot X (nb.set e b) (sbs l e form)=dot X nb l:=by unfold sbs;rw[zKN X _ _ _ _ (by rw[List.length_set,List.length_set];exact hl) (by rw[List.length_set];exact hf),oI X b 0 nb l e hl he,<-hX];grind
structure Dic where
 bs:List Nat
 nb:List Nat
 fs:List (List Rat)
 ob:List Rat
structure Dic.wf (D:Dic):Prop where
 len:D.fs.length=D.bs.length
 row:∀ (i:Nat) l,D.fs[i]?=some l->l.length=D.nb.length+1
 ob:D.ob.length=D.nb.length+1
 nd:(D.bs++D.nb).Nodup
def Dic.Sat (D:Dic) (X:Nat->Rat):Prop:=∀ (i:Nat) b l,D.bs[i]?=some b->D.fs[i]?=some l->X b=dot X D.nb l
def Dic.val (D:Dic) (X:Nat->Rat):Rat:=dot X D.nb D.ob
def Dic.at (D:Dic) (i j:Nat):Rat:=(D.fs.getD i []).getD j 0
def tI (r e:Nat) (form:List Rat):Nat->List (List Rat)->List (List Rat)
 |_,[]=>[]| i,l::ls=>(if i=r then form else sbs l e form)::tI r e form (i+1) ls
theorem eG (r e:Nat)(form:List Rat):∀ (i:Nat) (ls:List (List Rat)),(tI r e form i ls).length=ls.length
 |_,[]=>rfl| i,l::ls=>by simp only[tI,List.length_cons,eG r e form (i+1) ls]
theorem cI (r e:Nat)(form:List Rat):∀ (i:Nat) (ls:List (List Rat)) (k:Nat),(tI r e form i ls)[k]?=(ls[k]?).map fun l=>if i+k=r then form else sbs l e form
 |_,[],k=>by simp[tI]| i,l::ls,0=>by simp[tI]| i,l::ls,k+1=>by simp only[tI,List.getElem?_cons_succ];rw[cI r e form (i+1) ls k,show i+1+k=i+(k+1) by omega]
def Dic.piv (D:Dic) (r e:Nat):Dic :=
 let form:=qB (D.fs.getD r []) e
 ⟨D.bs.set r (D.nb.getD e 0),D.nb.set e (D.bs.getD r 0),tI r e form 0 D.fs,sbs D.ob e form⟩
theorem getD_some {α:Type}{l:List α}{i:Nat}{a d:α}(h:l[i]?=some a):l.getD i d=a:=by rw[List.getD_eq_getElem?_getD,h];rfl
theorem yO {α:Type}{l:List α}{i:Nat}{a:α}(h:l[i]?=some a):i<l.length:=(List.getElem?_eq_some_iff.1 h).1
theorem zO {α:Type}{l:List α}{i:Nat}(h:i<l.length):∃ a,l[i]?=some a:=⟨l[i],by simp[h]⟩
section
variable {D:Dic} {r e:Nat} {X:Nat->Rat}
theorem Dic.piv_sat (h:D.wf)(hr:r<D.bs.length)(he:e<D.nb.length)(h0:D.at r e≠0):(D.piv r e).Sat X↔D.Sat X:=by
 obtain⟨b,hb⟩:=zO hr;obtain⟨old,hold⟩:=zO (l:=D.fs) (i:=r) (by rw[h.len];exact hr);have hl:=h.row r old hold;have hg:D.fs.getD r []=old:=getD_some hold;have hbD:D.bs.getD r 0=b:=getD_some hb;have h0':old.getD e 0≠0:=by unfold Dic.at at h0;rw[hg] at h0;exact h0
 have hfl:(qB old e).length=D.nb.length+1:=by rw[bN];exact hl
 have key:X (D.nb.getD e 0)=dot X (D.nb.set e b) (qB old e)↔X b=dot X D.nb old:=by
  rw[zP8 hl he h0'];generalize old.getD e 0=k at *
  generalize X (D.nb.getD e 0)=x;generalize dot X D.nb old=d;have hk:k*k⁻¹=1:=Rat.mul_inv_cancel k h0';rw[Rat.div_def];constructor
  ·(intro hx;have:x*k=(X b-(d-k*x))*k⁻¹*k:=by rw[<-hx]);have e2:(X b-(d-k*x))*k⁻¹*k=(X b-(d-k*x)):=by grind
   grind
  {intro hx;rw[hx];grind}
 have hpg:∀ i,(D.piv r e).fs[i]?=(D.fs[i]?).map fun l=>if i=r then qB old e else sbs l e (qB old e):=fun i=>by show (tI r e (qB (D.fs.getD r []) e) 0 D.fs)[i]?=_;rw[hg,cI];simp
 have hnb:(D.piv r e).nb=D.nb.set e b:=by show D.nb.set e (D.bs.getD r 0)=_;rw[hbD]
 have hbs:(D.piv r e).bs=D.bs.set r (D.nb.getD e 0):=rfl;constructor
 ·(intro hs;have hx:X (D.nb.getD e 0)=dot X (D.nb.set e b) (qB old e):=by have:=hs r (D.nb.getD e 0) (qB old e) (by rw[hbs,List.getElem?_set_self hr]) (by rw[hpg,hold];simp);rw[hnb] at this;exact this);intro i c l hc hli;by_cases hi:i=r
  {subst hi;rw[hb] at hc;rw[hold] at hli;cases hc;cases hli;exact key.1 hx};{have:=hs i c (sbs l e (qB old e)) (by rw[hbs,List.getElem?_set_ne (fun e=>hi e.symm)];exact hc) (by rw[hpg,hli];simp[hi]);rw[hnb,zHT (h.row i l hli) hfl he hx] at this;exact this}
 ·intro hs;have hx:=key.2 (hs r b old hb hold);intro i c l hc hli;rw[hnb];rw[hpg] at hli;by_cases hi:i=r;{subst hi;rw[hbs,List.getElem?_set_self hr] at hc;rw[hold] at hli;simp at hli;cases hc;subst hli;exact hx}
  ·rw[hbs,List.getElem?_set_ne (fun e=>hi e.symm)] at hc;cases hf:D.fs[i]? with
   |none=>rw[hf] at hli;simp at hli| some l' =>
    rw[hf] at hli;simp[hi] at hli;subst hli;rw[zHT (h.row i l' hf) hfl he hx];exact hs i c l' hc hf
theorem Dic.piv_val (h:D.wf)(hr:r<D.bs.length)(he:e<D.nb.length)(h0:D.at r e≠0)(hs:D.Sat X):(D.piv r e).val X=D.val X:=by
 obtain⟨b,hb⟩:=zO hr;obtain⟨old,hold⟩:=zO (l:=D.fs) (i:=r) (by rw[h.len];exact hr);have hl:=h.row r old hold;have hg:D.fs.getD r []=old:=getD_some hold;have hbD:D.bs.getD r 0=b:=getD_some hb;have h0':old.getD e 0≠0:=by unfold Dic.at at h0;rw[hg] at h0;exact h0
 have hfl:(qB old e).length=D.nb.length+1:=by rw[bN];exact hl
 have hs':=(Dic.piv_sat h hr he h0).2 hs;have hx:X (D.nb.getD e 0)=dot X (D.nb.set e b) (qB old e):=by
  have:=hs' r (D.nb.getD e 0) (qB old e) (by show (D.bs.set r (D.nb.getD e 0))[r]?=_;rw[List.getElem?_set_self hr]) (by show (tI r e (qB (D.fs.getD r []) e) 0 D.fs)[r]?=_;rw[hg,cI,hold];simp)
  (have hnb:(D.piv r e).nb=D.nb.set e b:=by show D.nb.set e (D.bs.getD r 0)=_;rw[hbD]);rw[hnb] at this
  exact this
 show dot X (D.nb.set e (D.bs.getD r 0)) (sbs D.ob e (qB (D.fs.getD r []) e))=_;rw[hbD,hg,zHT h.ob hfl he hx];rfl
end
end Go.Proofs.YtfainocfaddbdaaGreat
