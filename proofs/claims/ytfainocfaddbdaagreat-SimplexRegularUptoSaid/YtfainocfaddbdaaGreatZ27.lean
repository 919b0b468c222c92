/- A part of the proof: RwE, DvB, DvC, SoA, RoE, CoA, RdA, RdB, LwA, LwB, PlD, BrA, BrB, SpA, SpB, SpC, SpD, SpE, SpF, SpG, SpH, SpI, SpJ, SpK, SpL, SpM, SpN, SpO, SpP, SpQ, SpR, SpS, SpT, SpU, RtA, UtB, SpX, EvA, SxA. -/
import Derived.Test.YtfainocfaddbdaaGreatZ26
import Derived.Test.YtfainocfaddbdaaGreatZ25
import Derived.Test.YtfainocfaddbdaaGreatZ24
import Derived.Laws.StructEq
import Derived.ChangeKeysEq
import Derived.Test.YtfainocfaddbdaaGreatRows
import Derived.Deep.Slices
import Derived.Deep.Strs
import Derived.Lib.SmallJoins
import Derived.KernelRfl
import Derived.ProofKit
import Derived.OpenShut
import Derived.ReadAgain
import Derived.ChangeStays
import Derived.Test.YtfainocfaddbdaaGreatZ20
set_option linter.all false
namespace Go.Proofs.YtfainocfaddbdaaGreat
open Go
set_option maxRecDepth 100000
set_option maxHeartbeats 2000000

theorem d7 {c:Rat}{k n m:Nat}(hc:Fits m c):∀ {a b:List (Int×Rat)},(∀ t,t∈a->Fits k t.2)->(∀ t,t∈b->Fits n t.2)->∀ u,u∈mrg c a b->Fits (k+n+m+1) u.2
 |[],[],_,_,u,h=>by rw[mrg] at h;exact absurd h (by simp)| a::aa,[],ha,hb,u,h=>by rw[mrg] at h;rcases vC h with rfl|h;{exact (ha a List.mem_cons_self).mono (by omega)};{exact d7 hc (fun t ht=>ha t (List.mem_cons_of_mem _ ht)) hb u h}
 |[],b::bb,ha,hb,u,h=>by rw[mrg] at h;rcases vC h with rfl|h;{exact (wU (hb b List.mem_cons_self) hc).mono (by omega)};{exact d7 hc ha (fun t ht=>hb t (List.mem_cons_of_mem _ ht)) u h}
 |a::aa,b::bb,ha,hb,u,h=>by rw[mrg] at h;split at h;{rcases vC h with rfl|h;{exact (ha a List.mem_cons_self).mono (by omega)};{exact d7 hc (fun t ht=>ha t (List.mem_cons_of_mem _ ht)) hb u h}};{split at h;{rcases vC h with rfl|h;{exact (wU (hb b List.mem_cons_self) hc).mono (by omega)};{exact d7 hc ha (fun t ht=>hb t (List.mem_cons_of_mem _ ht)) u h}};{rcases vC h with rfl|h;{exact (qF (ha a List.mem_cons_self) (wU (hb b List.mem_cons_self) hc)).mono (by omega)};{exact d7 hc (fun t ht=>ha t (List.mem_cons_of_mem _ ht)) (fun t ht=>hb t (List.mem_cons_of_mem _ ht)) u h}}}
termination_by a b=>a.length+b.length
structure F.fl (f:F) (k n:Nat):Prop where
 t:∀ t,t∈f.ts->Fits k t.2
 c:Fits k f.c
 len:f.ts.length<=n
theorem F.fl.fit {f:F}{k n:Nat}(h:f.fl k n)(hn:n<2^38):f.fit k:=⟨⟨Nat.lt_of_le_of_lt h.len hn,h.t⟩,h.c⟩
theorem F.fl.mono {f:F}{k n k' n':Nat}(h:f.fl k n)(hk:k<=k')(hn:n<=n'):f.fl k' n':=⟨fun t ht=>(h.t t ht).mono hk,h.c.mono hk,Nat.le_trans h.len hn⟩
theorem F.fl.merge {f g:F}{c:Rat}{k n k' n' m:Nat}(hf:f.fl k n)(hg:g.fl k' n')(hc:Fits m c):(f.merge g c).fl (k+k'+m+1) (n+n') :=
 ⟨d7 hc hf.t hg.t,(qF hf.c (wU hg.c hc)).mono (by omega),Nat.le_trans (gH _ _ _) (Nat.add_le_add hf.len hg.len)⟩
theorem zL9:F.zero.fl 1 0:=⟨fun t ht=>absurd ht (by simp[F.zero]),y5 (by decide),Nat.le_refl _⟩
theorem tZ (v:Int):(F.var v).fl 1 1:=⟨(zGA v).t.fit,(zGA v).c,Nat.le_refl _⟩
theorem zK7 {k:Nat}{q:Rat}(h:Fits k q):(F.num q).fl k 0:=⟨(zM9 h).t.fit,h,Nat.le_refl _⟩
theorem F.fl.add {f g:F}{k n k' n':Nat}(hf:f.fl k n)(hg:g.fl k' n'):(f.add g).fl (k+k'+2) (n+n'):=(hf.merge hg fits_one).mono (by omega) (Nat.le_refl _)
theorem F.fl.sub {f g:F}{k n k' n':Nat}(hf:f.fl k n)(hg:g.fl k' n'):(f.sub g).fl (k+k'+2) (n+n'):=(hf.merge hg fits_neg1).mono (by omega) (Nat.le_refl _)
theorem F.fl.scale {f:F}{c:Rat}{k n m:Nat}(hf:f.fl k n)(hc:Fits m c):(f.scale c).fl (k+m+2) n:=(F.fl.merge zL9 hf hc).mono (by omega) (by omega)


abbrev fld (s : String) (o b : Nat) : Field := { name := s, type := 3, offset := o, embedded := false, tag := "", pkgPath := "", byteOffset := b }




theorem zL7 {f:F}{k n:Nat}(h:f.fl k n)(hn:n<2^38):(fA f).sz k:=(h.fit hn).fA
def cor:List (Row×Rat)->Row->Rat
 |[],_=>0| t::r,w=>(if t.1=w then t.2 else 0)+cor r w
theorem zGH {q:Rat}:yX q<0↔q<0:=by unfold yX;split <;> (try split) <;> grind
abbrev InW (w:World) (b i:Nat):Prop:=b<w.heap.size
def Cs (w:World):List Value->List D->Prop
 |[],[]=>True| v::vs,d::ds=>(RepD w (InW w) v d/\v.oneCell'=true)/\Cs w vs ds| _,_=>False
theorem Cs.len {w}:∀ {a x},Cs w a x->a.length=x.length
 |[],[],_=>rfl| _::_,_::_,h=>by simp[Cs.len h.2]
theorem Cs.get {w}:∀ {a x},Cs w a x->∀ j,j<x.length->RepD w (InW w) (a.getD j undef) (x.getD j .any)/\(a.getD j undef).oneCell'=true
 |[],[],_,j,hj=>absurd hj (by simp)| _::_,_::_,h,0,_=>h.1| _::_,_::_,h,j+1,hj=>by simpa using Cs.get h.2 j (by simpa using hj)
structure ElR (w:World) (t:TypeId) (k:Nat) {α:Type} (G:α->Prop) (p:α->List PV):Prop where
 sz:Tryz.prog.cellsOf t=k
 rd:∀ {H:Type} {enc:TypeId×Value->H} {sp:Nat->Bool} {n:Nat} {cs:List Value} {x:DataW H×List MemPlace},DataW.trod enc Tryz.prog w 0 sp true n t cs=some x->∃ a,G a/\Cs w cs (x4 (p a))
theorem ElR.map {w t k}{α β:Type}{G:α->Prop}{p:α->List PV}{G':β->Prop}{p':β->List PV}(h:ElR w t k G p)(f:α->β)(hp:∀ a,G a->x4 (p' (f a))=x4 (p a))(hG:∀ a,G a->G' (f a)):ElR w t k G' p' :=
 ⟨h.sz,fun hx=>by obtain⟨a,h1,h2⟩:=h.rd hx;exact⟨f a,hG a h1,by rw[hp a h1];exact h2⟩⟩
theorem zQ2 {w t}{k:IntKind}(ht:Tryz.prog.underlying t=some (.int k))(hs:Tryz.prog.cellsOf t=1):ElR w t 1 (fun n=>(Lit.int k n).wf=true) (fun n=>[.int k (fun _=>n)]) :=
 ⟨hs,fun {H enc sp n cs x} hx=>by
  cases n with
  |zero=>simp[DataW.trod] at hx| succ n =>
   (unfold DataW.trod at hx;rw[ht] at hx;split at hx <;> simp_all);obtain⟨⟨rfl,h2⟩,_⟩:=hx
   exact⟨_,h2,⟨.int _ _,rfl⟩,trivial⟩⟩
theorem zQD {b o n:Nat}:(⟨b,o,none⟩:Addr).add n=⟨b,o+n,none⟩:=by unfold Addr.add;split;{rename_i h;rw[h];rfl};{rfl}
end Go.Proofs.YtfainocfaddbdaaGreat
namespace Go.Proofs.YtfainocfaddbdaaGreat
open Go Go.ChangeShapes Go.WideShapes Go.ChangeAt Go.RowKit
set_option maxRecDepth 100000
theorem own:ownKnob Tryz.prog.godebug=none:=by kernel_rfl
theorem kids:Kids Tryz.prog (·<Tryz.prog.types.size):=kids_rows (by kernel_rfl) (by kernel_rfl)
theorem zPS:∀ t e,t<Tryz.prog.types.size->Tryz.prog.underlying t=some (.slice e)->0<Tryz.prog.cellsOf e:=slices_full_of _ (by kernel_rfl)
theorem sW {H:Type}{enc:TypeId×Value->H}{W W':World}{sp:Nat->Bool}:∀ {ts:List TypeId} {vs:List Value} {ds:List (DataW H)} {ps:List MemPlace},(∀ t∈ts,t<Tryz.prog.types.size) ->DataW.TrodAll enc Tryz.prog W 0 (fun _=>true) true ts vs ds ps->(∀ p∈ps,W.sameAt W' p)->(∀ p∈ps,sp p.block=true)->DataW.TrodAll enc Tryz.prog W' 0 sp true ts vs ds ps
 |[],[],[],_,_,h,_,_=>h| _::_,_::_,_::_,_,hT,⟨p,q,⟨n,h1⟩,h2,e⟩,hs,hb=>by subst e;refine⟨p,q,⟨n,?_⟩,sW (fun t ht=>hT t (List.mem_cons_of_mem _ ht)) h2 (fun x hx=>hs x (List.mem_append_right _ hx)) (fun x hx=>hb x (List.mem_append_right _ hx)),rfl⟩;exact DataW.trod_respare kids zPS n _ _ _ (hT _ List.mem_cons_self) (DataW.trod_carry n _ _ _ h1 (fun x hx=>hs x (List.mem_append_left _ hx))) (fun x hx=>hb x (List.mem_append_left _ hx))
theorem zE1 {W W':World}(hs:W.heap.size<=W'.heap.size)(ho:W'.os=W.os)(hu:W'.output=W.output)(hb:∀ b,b<W.heap.size->W'.heap[b]?=W.heap[b]?)(may:MemPlace->Prop):W.keptBut W' may:=by
 refine⟨ho,hu,fun i hi=>?_⟩;rw[hb i hi];have:W.heap[i]?=some W.heap[i]:=by simp[hi]
 rw[this];cases W.heap[i] with
 |cells c t fr=>exact⟨rfl,rfl,rfl,fun _ _=>rfl⟩| map es clock=>exact .inr ⟨rfl,rfl⟩| _=>rfl
theorem zJ3 {s:ChangeSpec}{fn:Func}{H:Type}{enc:TypeId×Value->H}{W:World}{args:Array Value}{ds gs:List (DataW H)}{before:List MemPlace}{fresh handsOn again:Bool} (hv:s.vars=[]) (hres:fn.resultTypes=#[4]) (hsp:s.fn H ds={ results:=[.lit (.bool true)],args:=ds }) (hp:∀ t∈fn.params.toList,t<Tryz.prog.types.size)
  (hW:DataW.Whole enc Tryz.prog fn.params.toList s.vars false W args.toList ds gs before)
  {f:FuncId} {pvs:List PV} (hS:zH f pvs (.bool (fun _=>true))) (hn:args.size=pvs.length) (hrep:∀ j,j<pvs.length->Rep W (InW W) β0 (args.getD j undef) (pvs.getD j .any)) :
  Calls Tryz.prog f args W fun e W'=>∃ v,e=.returned v/\s.post enc Tryz.prog fn false fresh handsOn again W args v W':=by
 have hgo:=hS.go W (InW W) β0 args (fun b i h=>h) zK8 hn hrep;rw[wY] at hgo;refine hgo.mono fun e W' ⟨v,S',β',he,hl,hr,_⟩=>?_;subst he;have hvt:v=.bool true:=by
  cases hr with
  |c hf h=>cases h;rfl
 subst hvt;refine⟨_,rfl,?_⟩;have hsame:∀ b,b<W.heap.size->W'.heap[b]?=W.heap[b]?:=fun b hb=>hl.same b hb (fun⟨n,o,h,_⟩=>by simp at h);have hlt:=hW.lt;have hW0:=hW;obtain⟨p,q,hA,hV,rfl,hfz,hnd⟩:=hW;rw[hv] at hV;obtain⟨rfl,rfl⟩:=trodVars_none hV;rw[List.append_nil] at hlt hfz hW0;have hat:∀ x∈p,W.sameAt W' x:=fun x hx=>by
  have:=hlt x hx;cases x with
  |cell b o=>show W'.cell? _=W.cell? _;unfold World.cell?;rw[hsame b this]| map b=>exact hsame b this
 have hargs:∀ sp:Nat->Bool,(∀ x∈p,sp x.block=true)->DataW.TrodAll enc Tryz.prog W' 0 sp true fn.params.toList args.toList ds p:=fun sp h=>sW hp hA hat h;have hold:∀ x∈p,(fun b=>decide (b<W.heap.size)) x.block=true:=fun x hx=>by simpa using hlt x hx
 have hrs:∀ (b:Nat) (sp:Nat->Bool) (hd:Bool),DataW.TrodAll enc Tryz.prog W' b sp hd fn.resultTypes.toList ((Value.bool true).resultList fn.resultTypes.size) [.lit (.bool true)] []:=fun b sp hd=>by rw[hres];exact⟨[],[],shut_bool Tryz.underlying4 true,rfl,rfl⟩
 have hfz':W'.noneFrozen p:=fun b o h=>by have g:=hfz b o h;have hb:b<W.heap.size:=hlt _ h;unfold World.frozen? at g ⊢;rw[hsame b hb];exact g
 refine⟨ds,[],p,[],p,[],hW0,?_,?_,?_,?_,fun _=>⟨?_,ds.cons (.lit (.bool true)),[],p,⟨p,[],?_,?_,by simp,hfz',fun h=>by cases h⟩,fun x hx _=>hx⟩⟩;{rw[List.append_nil,hsp];exact hrs _ _ _};{rw[List.append_nil,hsp];exact hargs _ hold};{rw[List.append_nil,hsp,hv];rfl};{exact zE1 hl.size hl.os hl.output hsame _};{exact ok_one hres rfl (okWide_bool_mk Tryz.underlying4 _)};{exact trodAll_append (hargs _ (fun _ _=>rfl)) (hrs _ _ _)};{rw[hv];rfl}
end Go.Proofs.YtfainocfaddbdaaGreat
namespace Go.Proofs.YtfainocfaddbdaaGreat
open Go
set_option maxRecDepth 100000
set_option maxHeartbeats 4000000
def na (raw:List UInt8) (a:Nat):Nat:=if a<raw.length then a+1 else a

structure F.wf (f:F) (n:Int):Prop where
 cn:Cn f.ts
 v:∀ t,t∈f.ts->0<=t.1/\t.1<n
theorem F.wf.merge {f g:F}{c:Rat}{n:Int}(hf:f.wf n)(hg:g.wf n):(f.merge g c).wf n:=⟨hf.cn.mrg hg.cn,fun t ht=>by
 rcases kY ht with⟨u,hu,e⟩|⟨u,hu,e⟩;{rw[<-e];exact hf.v u hu}
 ·rw[<-e];exact hg.v u hu⟩
theorem F.wf.num (q:Rat)(n:Int):(F.num q).wf n:=⟨Cn.nil,fun t ht=>absurd ht (by simp[F.num])⟩
theorem F.wf.var {v n:Int}(h1:0<=v)(h2:v<n):(F.var v).wf n:=⟨Cn.nil.cons (by simp) (by show (1:Rat)≠0;decide),fun t ht=>by
 have:t=(v,1):=by simpa[F.var] using ht
 rw[this];exact⟨h1,h2⟩⟩
theorem F.wf.zero0 (n:Int):(⟨[],0⟩:F).wf n:=⟨Cn.nil,fun t ht=>absurd ht (by simp)⟩
theorem F.wf.scale {f:F}{c:Rat}{n:Int}(hf:f.wf n):(f.scale c).wf n:=F.wf.merge (F.wf.zero0 n) hf
theorem F.wf.add {f g:F}{n:Int}(hf:f.wf n)(hg:g.wf n):(f.add g).wf n:=hf.merge hg



theorem zNV {N:Int}:∀ {ts:List (Int×Rat)} {p:Int},Cn ts->(∀ t,t∈ts->p<t.1/\0<=t.1/\t.1<N)->vT N p (tR ts)=true
 |[],_,_,_=>rfl| t::r,p,hc,h=>by obtain⟨h1,h2,h3⟩:=h t List.mem_cons_self;have ih:=zNV (N:=N) (p:=t.1) hc.tail (fun u hu=>⟨hc.lt u hu,(h u (List.mem_cons_of_mem _ hu)).2⟩);show (decide (0<=t.1)&&decide (t.1<N)&&decide (p<t.1)&&decide ((zL t.2).q≠0)&&(zL t.2).ok&&vT N t.1 (tR r))=true;rw[ih,yT,a6,decide_eq_true h1,decide_eq_true h2,decide_eq_true h3,decide_eq_true hc.hd];rfl
theorem F.wf.valid {f:F}{n:Int}(h:f.wf n):(fA f).valid n=true:=by have h1:=zNV (N:=n) (p:=-1) h.cn (fun t ht=>⟨by have:=(h.v t ht).1;omega,(h.v t ht).1,(h.v t ht).2⟩);show (vT n (-1) (tR f.ts)&&(zL f.c).ok)=true;rw[h1,a6];rfl
theorem zLU {l:List F}{n:Int}(h:∀ f,f∈l->f.wf n):(l.map fA).all (A.valid n)=true:=by rw[List.all_eq_true];intro a ha;obtain⟨f,hf,rfl⟩:=List.mem_map.1 ha;exact (h f hf).valid
theorem zKG (f:F)(c:Rat)(v:Int):co (f.scale c).ts v=co f.ts v*c:=by show co (mrg c [] f.ts) v=_;rw[gB];simp only[co];grind
theorem zP3 (f g:F)(v:Int):co (f.add g).ts v=co f.ts v+co g.ts v:=by show co (mrg 1 f.ts g.ts) v=_;rw[gB];grind
theorem zP1 (f g:F)(v:Int):co (f.sub g).ts v=co f.ts v-co g.ts v:=by show co (mrg (-1) f.ts g.ts) v=_;rw[gB];grind
theorem Cn.nil_of {l:List (Int×Rat)}(h:Cn l)(h0:∀ v,co l v=0):l=[]:=Cn.ext h Cn.nil (fun v=>by rw[h0 v];rfl)
def dlt (v w:Int):Rat:=if v=w then 1 else 0
theorem zLH (v w:Int):co (F.var v).ts w=dlt v w:=by show (if v=w then 1 else 0)+(0:Rat)=_;unfold dlt;grind
theorem zP2 (q:Rat)(w:Int):co (F.num q).ts w=0:=rfl



theorem F.wf.sub {f g:F}{n:Int}(hf:f.wf n)(hg:g.wf n):(f.sub g).wf n:=hf.merge hg







def evX (X:Int->Rat):List (Int×Rat)->Rat
 |[]=>0| t::r=>t.2*X t.1+evX X r
def F.at (f:F) (X:Int->Rat):Rat:=f.c+evX X f.ts
theorem eP (X:Int->Rat)(v:Int)(q:Rat)(r):evX X (pc v q r)=q*X v+evX X r:=by unfold pc;split;{rename_i h;rw[h];grind};{rfl}
theorem sD (X:Int->Rat)(c:Rat):∀ (a b:List (Int×Rat)),evX X (mrg c a b)=evX X a+evX X b*c
 |[],[]=>by rw[mrg];simp only[evX];grind| a::aa,[]=>by rw[mrg,eP,sD X c aa []];simp only[evX];grind| [],b::bb=>by rw[mrg,eP,sD X c [] bb];simp only[evX];grind| a::aa,b::bb=>by
  rw[mrg];split;{rw[eP,sD X c aa (b::bb)];simp only[evX];grind}
  ·split;{rw[eP,sD X c (a::aa) bb];simp only[evX];grind}
   ·(have:a.1=b.1:=by omega);rw[eP,sD X c aa bb];simp only[evX,this];grind
termination_by a b=>a.length+b.length
theorem oQ (X:Int->Rat)(f g:F)(c:Rat):(f.merge g c).at X=f.at X+g.at X*c:=by show f.c+g.c*c+evX X (mrg c f.ts g.ts)=f.c+evX X f.ts+(g.c+evX X g.ts)*c;rw[sD];grind
theorem zLR (X:Int->Rat)(f g:F):(f.add g).at X=f.at X+g.at X:=by unfold F.add;rw[oQ];grind
theorem zLQ (X:Int->Rat)(f g:F):(f.sub g).at X=f.at X-g.at X:=by unfold F.sub;rw[oQ];grind
theorem lM (X:Int->Rat):F.zero.at X=0:=by show (0:Rat)+0=0;grind
theorem zEM (X:Int->Rat)(f:F)(c:Rat):(f.scale c).at X=f.at X*c:=by unfold F.scale;rw[oQ];show F.zero.at X+_=_;rw[lM];grind
theorem oP (X:Int->Rat)(v:Int):(F.var v).at X=X v:=by show (0:Rat)+(1*X v+0)=X v;grind
theorem zQC (X:Int->Rat)(q:Rat):(F.num q).at X=q:=by show q+0=q;grind
theorem zN7 {f g:F}(hf:Cn f.ts)(hg:Cn g.ts){k n k' n':Nat}(h1:f.fl k n)(h2:g.fl k' n')(hk:k<=2^26)(hk':k'<=2^26)(hn:n<=2^35)(hn':n'<=2^35):zH 29 [fv f,fv g] (fv (f.add g)):=by have h:=zK2 f.ts (zL f.c) (fA g) hf (by rw[show (fA g).ts=tR g.ts from rfl,zFO];exact hg) ⟨by have:=h1.len;omega,fun t ht=>(h1.t t ht).mono (by omega)⟩ ((yD h1.c).mono (by omega)) ((zL7 h2 (by omega)).mono (by omega)) (by have:=h1.len;have:=h2.len;rw[show (fA g).ts=tR g.ts from rfl,vM];omega);rw[f_fA,yT] at h;exact h
theorem zN6 {f g:F}(hf:Cn f.ts)(hg:Cn g.ts){k n k' n':Nat}(h1:f.fl k n)(h2:g.fl k' n')(hk:k<=2^26)(hk':k'<=2^26)(hn:n<=2^35)(hn':n'<=2^35):zH 33 [fv f,fv g] (fv (f.sub g)):=by have h:=zPB f.ts (zL f.c) (fA g) hf (by rw[show (fA g).ts=tR g.ts from rfl,zFO];exact hg) ⟨by have:=h1.len;omega,fun t ht=>(h1.t t ht).mono (by omega)⟩ ((yD h1.c).mono (by omega)) ((zL7 h2 (by omega)).mono (by omega)) (by have:=h1.len;have:=h2.len;rw[show (fA g).ts=tR g.ts from rfl,vM];omega);rw[f_fA,yT] at h;exact h
theorem zGR {f:F}{q:Rat}{k n m:Nat}(h1:f.fl k n)(hq:Fits m q)(hk:k<=2^31)(hn:n<=2^35)(hm:m<=2^31):zH 27 [fv f,rv (zL q)] (fv (f.scale q)):=by have h:=zDD (fA f) (zL q) ((zL7 h1 (by omega)).mono (by omega)) ((yD hq).mono (by omega));rw[f_fA,yT] at h;exact h
theorem zOB {x:R}(h:x.ok=true):zL x.q=x:=(of_decide_eq_true h).symm
theorem zCZ {vars:Int}:∀ {ts:List (Int×R)} {p:Int},vT vars p ts=true->tR (tq ts)=ts/\Cn (tq ts)/\∀ t,t∈tq ts->p<t.1
 |[],p,_=>⟨rfl,Cn.nil,fun t h=>absurd h (by simp[tq])⟩| t::r,p,h=>by rw[nV] at h;simp only[Bool.and_eq_true,decide_eq_true_eq] at h;obtain⟨⟨⟨⟨⟨h1,h2⟩,h3⟩,h4⟩,h5⟩,h6⟩:=h;obtain⟨g1,g2,g3⟩:=zCZ h6;refine⟨?_,?_,fun u hu=>?_⟩;{show (t.1,zL t.2.q)::tR (tq r)=t::r;rw[g1,zOB h5]};{exact Cn.cons (t:=(t.1,t.2.q)) g2 g3 h4};{rcases List.mem_cons.1 hu with rfl|hu;{exact h3};{have:=g3 u hu;omega}}
theorem zB7 {a:A}{vars:Int}(h:a.valid vars=true):fA a.f=a/\Cn a.f.ts:=by unfold A.valid at h;simp only[Bool.and_eq_true] at h;obtain⟨g1,g2,_⟩:=zCZ h.1;refine⟨?_,g2⟩;obtain⟨ts,c⟩:=a;show (⟨tR (tq ts),zL c.q⟩:A)=⟨ts,c⟩;rw[g1,zOB h.2]

def xr (l:List Rat):Int->Rat:=fun v=>(l[v.toNat]?).getD 0
def vAll:List F->List Rat->List Rat
 |[],l=>l| f::r,l=>vAll r (l++[maxQ (f.at (xr l)) 0])
theorem zC0:∀ (us:List F) (l:List Rat) (i:Nat),i<l.length->(vAll us l)[i]?=l[i]?
 |[],l,i,_=>rfl| f::r,l,i,h=>by unfold vAll;rw[zC0 r _ i (by simp;omega),List.getElem?_append_left h]
theorem zEN {f:F}{X Y:Int->Rat}(h:∀ t,t∈f.ts->X t.1=Y t.1):f.at X=f.at Y:=by
 unfold F.at
 congr 1;generalize f.ts=l at *
 induction l with
 |nil=>rfl| cons t r ih =>
  unfold evX;rw[h t List.mem_cons_self,ih fun u hu=>h u (List.mem_cons_of_mem _ hu)]
theorem zKO {l:List Rat}{i:Nat}{q:Rat}(h:l[i]?=some q):xr l i=q:=by unfold xr;rw[Int.toNat_natCast,h];rfl
theorem zQ3 {us:List F}{l:List Rat}{f:F}(hw:f.wf (l.length:Int)):f.at (xr (vAll us l))=f.at (xr l):=zEN fun t ht=>by have h:=hw.v t ht;unfold xr;rw[zC0 us l _ (by omega)]
def evS (f:F) (X:Int->Rat) (i:Nat):Rat:=f.c+evX X (f.ts.take i)
theorem zD6 (X:Int->Rat)(t:Int×Rat):∀ l,evX X (l++[t])=evX X l+t.2*X t.1
 |[]=>by show t.2*X t.1+0=0+t.2*X t.1;grind| u::r=>by rw[List.cons_append];unfold evX;rw[zD6 X t r];grind
theorem zD7 (f:F)(X:Int->Rat):evS f X 0=f.c:=by unfold evS;rw[List.take_zero];show f.c+0=f.c;grind
theorem zD8 {f:F}{X:Int->Rat}{i:Nat}{t:Int×Rat}(h:f.ts[i]?=some t):evS f X (i+1)=evS f X i+t.2*X t.1:=by unfold evS;rw[show f.ts.take (i+1)=f.ts.take i++[t] by rw[List.take_add_one,h];rfl,zD6];grind
theorem zHE (f:F)(X:Int->Rat):evS f X f.ts.length=f.at X:=by unfold evS;rw[List.take_length];rfl
def FX (m:Nat) (X:Int->Rat) (f:F):Prop:=∀ t,t∈f.ts->Fits m (X t.1)
theorem eQ {f:F}{X:Int->Rat}{k n m:Nat}(hf:f.fl k n)(hx:FX m X f):∀ i,Fits (k+(k+m+1)*i) (evS f X i)
 |0=>by rw[zD7];exact hf.c.mono (by omega)| i+1=>by
  have ih:=eQ hf hx i;cases h:f.ts[i]? with
  |none =>
   (have e:evS f X (i+1)=evS f X i:=by unfold evS;rw[List.take_of_length_le (by have:=List.getElem?_eq_none_iff.1 h;omega),List.take_of_length_le (List.getElem?_eq_none_iff.1 h)]);rw[e];exact ih.mono (by rw[Nat.mul_succ];omega)
  |some t =>
   rw[zD8 h];have hm:=List.mem_of_getElem? h;exact (qF ih (wU (hf.t t hm) (hx t hm))).mono (by rw[Nat.mul_succ];omega)
theorem zNU {l:List Rat}{m:Nat}{f:F}(hw:f.wf (l.length:Int))(hl:∀ q,q∈l->Fits m q):FX m (xr l) f:=fun t ht=>by
 have h:=hw.v t ht;obtain⟨q,hq⟩:=j5 (l:=l) (i:=t.1.toNat) (by omega);have e:t.1=((t.1.toNat:Nat):Int):=by omega
 rw[e,zKO hq];exact hl q (List.mem_of_getElem? hq)
theorem zQO (f:F)(l:List Rat){k n m:Nat}(hf:f.fl k n)(hw:f.wf (l.length:Int))(hl:∀ q,q∈l->Fits m q)(hk:k<=2^30)(hm:m<=2^30)(hn:k+(k+m+1)*n<=2^30)(hn2:n<=2^30)(hll:l.length<2^40):zH 149 [av (fA f),rlv (l.map zL)] (.tup [rv (zL (f.at (xr l))),.int .i64 (fun _=>0)]):=by
 refine sF Tryz.f149 ?_;have fx:=zNU hw hl;have hi:∀ (i:Nat) t,f.ts[i]?=some t->∃ j:Nat,t.1=(j:Int)/\j<l.length/\(l.map zL)[j]?=some (zL (xr l t.1)):=fun i t h=>by
  (have hv:=hw.v t (List.mem_of_getElem? h);obtain⟨q,hq⟩:=j5 (l:=l) (i:=t.1.toNat) (by omega);have e:t.1=((t.1.toNat:Nat):Int):=by omega);refine⟨t.1.toNat,e,by omega,?_⟩
  rw[List.getElem?_map,hq];rw[e,zKO hq];rfl
 have cm:∀ t,t∈f.ts->zH 28 [rv (zL t.2),rv (zL (xr l t.1))] (rv (zL (t.2*xr l t.1))):=fun t ht=>by have:=s77 (zL t.2) (zL (xr l t.1)) ((yD (hf.t t ht)).mono (by omega)) ((yD (fx t ht)).mono (by omega));rw[yT,yT] at this;exact this
 have ca:∀ (i:Nat) t,f.ts[i]?=some t->zH 32 [rv (zL (evS f (xr l) i)),rv (zL (t.2*xr l t.1))] (rv (zL (evS f (xr l) (i+1)))):=fun i t h=>by have hm':=List.mem_of_getElem? h;have hlt:=(List.getElem?_eq_some_iff.1 h).1;have hle:=hf.len;have e:(k+m+1)*i<=(k+m+1)*n:=Nat.mul_le_mul_left _ (by omega);have:=s44 (zL (evS f (xr l) i)) (zL (t.2*xr l t.1)) ((yD (eQ hf fx i)).mono (by omega)) ((yD (wU (hf.t t hm') (fx t hm'))).mono (by have:(k+m+1)*1<=(k+m+1)*n:=Nat.mul_le_mul_left _ (by omega);omega));rw[yT,yT,<-zD8 h] at this;exact this
 have hlen:f.ts.length<=2^30:=Nat.le_trans hf.len hn2;have e0:=zD7 f (xr l);have e9:=zHE f (xr l);obtain⟨V,hV⟩:∃ V:Nat->R,∀ i,zL (evS f (xr l) i)=V i:=⟨_,fun _=>rfl⟩;have hav:av (fA f)=.agg [tsv (tR f.ts),.bool (fun _=>(V 0).neg),nat (V 0).num,nat (V 0).den]:=by rw[<-hV,e0];rfl
 rw[<-e9,hV,hav];simp only[hV] at ca;have hT:∀ (i:Nat) t,f.ts[i]?=some t->(tR f.ts)[i]?=some (t.1,zL t.2):=fun i t h=>by simp[tR,List.getElem?_map,h]
 have hTl:(tR f.ts).length=f.ts.length:=vM _;have hxl:(l.map zL).length=l.length:=List.length_map ..;have facts:∀ i,i<f.ts.length->∃ (z:Int) (v:Nat) (c x y:R),z=(v:Int)/\(tR f.ts)[i]?=some (z,c)/\(l.map zL)[v]?=some x/\v<(l.map zL).length/\zH 28 [rv c,rv x] (rv y)/\zH 32 [rv (V i),rv y] (rv (V (i+1))):=fun i h=>by obtain⟨t,ht⟩:=j5 h;obtain⟨j,h1,h2,h3⟩:=hi i t ht;exact⟨t.1,j,zL t.2,_,_,h1,hT i t ht,h3,by rw[hxl];exact h2,cm t (List.mem_of_getElem? ht),ca i t ht⟩
 clear hi cm ca hT hav hV e0 e9 fx hl hw hf;generalize f.ts.length=N at *
 generalize tR f.ts=T at *
 generalize l.map zL=X at *
 cbv;refine z9 (σ:=Nat) (fun i=>⟨[(1,rlv X),(2,.ptr 2 0),(4,.ptr 4 0),(6,.ptr 6 0),(7,.int .i64 (fun _=>(i:Int)))],
   [(2,.box [tsv T,.bool (fun _=>(V 0).neg),nat (V 0).num,nat (V 0).den]),(4,.box [.ff,.nil,.nil]),(6,.box [.bool (fun _=>(V i).neg),nat (V i).num,nat (V i).den])]⟩)
  (fun i=>i<=N) (fun i=>N-i) 0 (Nat.zero_le _) (wkZ) ?_
 intro i hi';cbv;refine zF (fun h=>?_) (fun h=>?_)
 ·(have hlt:i<N:=by rw[zN,hTl] at h;(try dsimp only [zJ] at *);omega);obtain⟨z,v,c,x,y,g0,g1,g2,g3,c1,c2⟩:=facts i hlt
  clear facts;generalize hV1:V (i+1)=V1 at *
  generalize hVi:V i=Vi at *
  cbv;refine uM g1 qJ jI ?_;cbv;refine zOH om ?_;cbv;refine gA (by rw[zN];(try dsimp only [zJ] at *);omega) ?_;cbv;refine zZ 10 (by cbv) ?_;cbv;refine zG6 g2 g0 pR iM ?_;cbv;refine dA c1 ?_;cbv;refine dA c2 ?_;cbv;refine⟨zD om om,i+1,(by show i+1<=N;omega),(by show N-(i+1)<N-i;omega),.le okZ (by cbv;rw[hV1];repeat' first|exact trivial|exact lR|apply And.intro) rfl⟩
 ·(have hN':i=N:=by rw[zN,hTl] at h;(try dsimp only [zJ] at *);omega);rw[hN']
  cbv
  (refine rC ?_;cbv)
  exact okA
def dot (X:Nat->Rat):List Nat->List Rat->Rat
 |[],l=>l.headD 0| v::vs,l=>l.headD 0*X v+dot X vs l.tail
def jG (a:Rat):List Rat->List Rat->List Rat
 |x::l,y::m=>(x+a*y)::jG a l m| l,_=>l
theorem jC (a:Rat):∀ l m:List Rat,(jG a l m).length=l.length
 |[],_=>by unfold jG;rfl
 |x::l,[]=>by unfold jG;rfl
 |x::l,y::m=>by unfold jG;rw[List.length_cons,List.length_cons,jC a l m]
theorem tX (a:Rat):∀ (l m:List Rat) (j:Nat),l.length=m.length->(jG a l m).getD j 0=l.getD j 0+a*m.getD j 0
 |[],[],j,_=>by simp[jG];grind| x::l,[],j,h=>by simp at h| [],y::m,j,h=>by simp at h| x::l,y::m,0,h=>by simp[jG]| x::l,y::m,j+1,h=>by have:=tX a l m j (by simpa using h);simpa[jG] using this
theorem zEE (X:Nat->Rat)(a:Rat):∀ (nb:List Nat) (l m:List Rat),l.length=nb.length+1->m.length=nb.length+1->dot X nb (jG a l m)=dot X nb l+a*dot X nb m
 |[],[x],[y],_,_=>by simp[dot,jG]| [],[],_,h,_=>by simp at h| [],x::y::l,_,h,_=>by simp at h| [],[x],[],_,h=>by simp at h| [],[x],y::z::m,_,h=>by simp at h| v::vs,[],_,h,_=>by simp at h| v::vs,x::l,[],_,h=>by simp at h| v::vs,x::l,y::m,h1,h2=>by have:=zEE X a vs l m (by simpa using h1) (by simpa using h2);simp only[dot,jG,List.headD_cons,List.tail_cons];rw[this];grind
theorem tQ (X:Nat->Rat)(b:Nat)(k:Rat):∀ (nb:List Nat) (l:List Rat) (e:Nat),l.length=nb.length+1->e<nb.length->dot X (nb.set e b) (l.set e k)=dot X nb l-l.getD e 0*X (nb.getD e 0)+k*X b
 |[],_,e,_,h=>by simp at h| v::vs,[],e,h,_=>by simp at h| v::vs,x::l,0,_,_=>by simp[dot];grind| v::vs,x::l,e+1,h1,h2=>by have:=tQ X b k vs l e (by simpa using h1) (by simpa using h2);simp only[List.set_cons_succ,dot,List.headD_cons,List.tail_cons,List.getD_cons_succ];rw[this];grind
theorem kS {X Y:Nat->Rat}:∀ {nb:List Nat} {l:List Rat},(∀ v,v∈nb->X v=Y v)->dot X nb l=dot Y nb l
 |[],l,_=>rfl| v::vs,l,h=>by simp only[dot];rw[h v List.mem_cons_self,kS (nb:=vs) fun w hw=>h w (List.mem_cons_of_mem _ hw)]
theorem k9 {X:Nat->Rat}:∀ {nb:List Nat} {l:List Rat},(∀ v,v∈nb->X v=0)->dot X nb l=l.getD nb.length 0
 |[],l,_=>by cases l <;> rfl
 |v::vs,l,h=>by
  (simp only[dot];rw[h v List.mem_cons_self,k9 (nb:=vs) fun w hw=>h w (List.mem_cons_of_mem _ hw)];cases l <;> simp);{grind}
  {grind}
theorem dI {X:Nat->Rat}:∀ {nb:List Nat} {l:List Rat} {e:Nat},nb.Nodup->e<nb.length->(∀ j,j<nb.length->j≠e->X (nb.getD j 0)=0)->dot X nb l=l.getD e 0*X (nb.getD e 0)+l.getD nb.length 0
 |[],_,e,_,h,_=>by simp at h| v::vs,l,0,hn,_,h=>by simp only[dot];rw[k9 (nb:=vs) fun w hw=>by obtain⟨j,hj,rfl⟩:=List.getElem_of_mem hw;have:=h (j+1) (by simpa using hj) (by omega);simpa[hj] using this];cases l <;> simp
 |v::vs,l,e+1,hn,he,h=>by
  simp only[dot];rw[dI (nb:=vs) (e:=e) (List.nodup_cons.1 hn).2 (by simpa using he) fun j hj hne=>by have:=h (j+1) (by simpa using hj) (by omega);simpa using this]
  (have h0:=h 0 (by simp) (by omega);simp only[List.getD_cons_zero] at h0;rw[h0];cases l <;> simp);{grind}
  {grind}
def sbs (l:List Rat) (e:Nat) (form:List Rat):List Rat:=jG (l.getD e 0) (l.set e 0) form
theorem nY (l:List Rat)(e:Nat)(form:List Rat):(sbs l e form).length=l.length:=by unfold sbs;rw[jC,List.length_set]
theorem zJJ {l:List Rat}{e:Nat}{form:List Rat}(h:l.getD e 0=0)(hl:l.length=form.length):sbs l e form=l:=by
 unfold sbs;rw[h];apply List.ext_getElem?;intro j;have h1:=tX 0 (l.set e 0) form j (by rw[List.length_set];exact hl);have hlen:=jC 0 (l.set e 0) form;rw[List.length_set] at hlen;by_cases hj:j<l.length
 ·(rw[List.getElem?_eq_getElem (by omega),List.getElem?_eq_getElem hj];congr 1;rw[List.getD_eq_getElem?_getD,List.getElem?_eq_getElem (by omega)] at h1;have h2:(l.set e 0).getD j 0=l[j]:=by rw[List.getD_eq_getElem?_getD,List.getElem?_set];by_cases he:e=j;{subst he;rw[if_pos rfl,if_pos hj];rw[List.getD_eq_getElem?_getD,List.getElem?_eq_getElem hj] at h;exact h.symm};{rw[if_neg he,List.getElem?_eq_getElem hj];rfl});rw[h2] at h1;simp only[Option.getD_some] at h1;rw[h1];grind
 {rw[List.getElem?_eq_none (by omega),List.getElem?_eq_none (by omega)]}
def vE (old:List Rat) (e:Nat):List Rat:=(old.map fun c=>-c/old.getD e 0).set e (1/old.getD e 0)
theorem gQ (old:List Rat)(e:Nat):(vE old e).length=old.length:=by unfold vE;rw[List.length_set,List.length_map]
theorem zB2 (X:Nat->Rat)(k:Rat):∀ (nb:List Nat) (l:List Rat),dot X nb (l.map fun c=>c*k)=dot X nb l*k
 |[],l=>by cases l <;> simp[dot]
 |v::vs,l=>by
  simp only[dot];cases l with
  |nil =>
   have:=zB2 X k vs [];simp only[List.map_nil,List.headD_nil,List.tail_nil] at this ⊢;rw[this];grind
  |cons x l =>
   have:=zB2 X k vs l;simp only[List.map_cons,List.headD_cons,List.tail_cons];rw[this];grind
theorem zIQ {X:Nat->Rat}{nb:List Nat}{old:List Rat}{e b:Nat}(hl:old.length=nb.length+1)(he:e<nb.length)(h0:old.getD e 0≠0):dot X (nb.set e b) (vE old e)=(X b-(dot X nb old-old.getD e 0*X (nb.getD e 0)))/old.getD e 0:=by
 unfold vE;have e1:(old.map fun c=>-c/old.getD e 0)=old.map fun c=>c*(-1/old.getD e 0):=by apply List.map_congr_left;intro c _;rw[Rat.div_def,Rat.div_def];grind
 rw[tQ X b _ nb _ e (by rw[List.length_map];exact hl) he,e1,zB2];have e2:(old.map fun c=>c*(-1/old.getD e 0)).getD e 0=old.getD e 0*(-1/old.getD e 0):=by
  rw[List.getD_eq_getElem?_getD,List.getElem?_map,List.getD_eq_getElem?_getD];cases old[e]? with
  |none=>simp| some c=>rfl
 rw[e2];generalize old.getD e 0=k at *
 rw[Rat.div_def,Rat.div_def,Rat.div_def];have hk:k*k⁻¹=1:=Rat.mul_inv_cancel k h0;grind
theorem zB1 {X:Nat->Rat}{nb:List Nat}{l form:List Rat}{e b:Nat}(hl:l.length=nb.length+1)(hf:form.length=nb.length+1)(he:e<nb.length)(hX:X (nb.getD e 0)=dot X (nb.set e b) form):dot X (nb.set e b) (sbs l e form)=dot X nb l:=by unfold sbs;rw[zEE X _ _ _ _ (by rw[List.length_set,List.length_set];exact hl) (by rw[List.length_set];exact hf),tQ X b 0 nb l e hl he,<-hX];grind
structure Dic where
 bs:List Nat
 nb:List Nat
 fs:List (List Rat)
 ob:List Rat
structure Dic.wf (D:Dic):Prop where
 len:D.fs.length=D.bs.length
 row:∀ (i:Nat) l,D.fs[i]?=some l->l.length=D.nb.length+1
 ob:D.ob.length=D.nb.length+1
 nd:(D.bs++D.nb).Nodup
def Dic.Sat (D:Dic) (X:Nat->Rat):Prop:=∀ (i:Nat) b l,D.bs[i]?=some b->D.fs[i]?=some l->X b=dot X D.nb l
def Dic.val (D:Dic) (X:Nat->Rat):Rat:=dot X D.nb D.ob
def Dic.at (D:Dic) (i j:Nat):Rat:=(D.fs.getD i []).getD j 0
def bO (r e:Nat) (form:List Rat):Nat->List (List Rat)->List (List Rat)
 |_,[]=>[]| i,l::ls=>(if i=r then form else sbs l e form)::bO r e form (i+1) ls
theorem pU (r e:Nat)(form:List Rat):∀ (i:Nat) (ls:List (List Rat)),(bO r e form i ls).length=ls.length
 |_,[]=>rfl| i,l::ls=>by simp only[bO,List.length_cons,pU r e form (i+1) ls]
theorem j1 (r e:Nat)(form:List Rat):∀ (i:Nat) (ls:List (List Rat)) (k:Nat),(bO r e form i ls)[k]?=(ls[k]?).map fun l=>if i+k=r then form else sbs l e form
 |_,[],k=>by simp[bO]| i,l::ls,0=>by simp[bO]| i,l::ls,k+1=>by simp only[bO,List.getElem?_cons_succ];rw[j1 r e form (i+1) ls k,show i+1+k=i+(k+1) by omega]
def Dic.piv (D:Dic) (r e:Nat):Dic :=
 let form:=vE (D.fs.getD r []) e
 ⟨D.bs.set r (D.nb.getD e 0),D.nb.set e (D.bs.getD r 0),bO r e form 0 D.fs,sbs D.ob e form⟩
theorem getD_some {α:Type}{l:List α}{i:Nat}{a d:α}(h:l[i]?=some a):l.getD i d=a:=by rw[List.getD_eq_getElem?_getD,h];rfl
theorem yK {α:Type}{l:List α}{i:Nat}{a:α}(h:l[i]?=some a):i<l.length:=(List.getElem?_eq_some_iff.1 h).1
theorem zT {α:Type}{l:List α}{i:Nat}(h:i<l.length):∃ a,l[i]?=some a:=⟨l[i],by simp[h]⟩
section
variable {D:Dic} {r e:Nat} {X:Nat->Rat}
theorem Dic.piv_sat (h:D.wf)(hr:r<D.bs.length)(he:e<D.nb.length)(h0:D.at r e≠0):(D.piv r e).Sat X↔D.Sat X:=by
 obtain⟨b,hb⟩:=zT hr;obtain⟨old,hold⟩:=zT (l:=D.fs) (i:=r) (by rw[h.len];exact hr);have hl:=h.row r old hold;have hg:D.fs.getD r []=old:=getD_some hold;have hbD:D.bs.getD r 0=b:=getD_some hb;have h0':old.getD e 0≠0:=by unfold Dic.at at h0;rw[hg] at h0;exact h0
 have hfl:(vE old e).length=D.nb.length+1:=by rw[gQ];exact hl
 have key:X (D.nb.getD e 0)=dot X (D.nb.set e b) (vE old e)↔X b=dot X D.nb old:=by
  rw[zIQ hl he h0'];generalize old.getD e 0=k at *
  generalize X (D.nb.getD e 0)=x;generalize dot X D.nb old=d;have hk:k*k⁻¹=1:=Rat.mul_inv_cancel k h0';rw[Rat.div_def];constructor
  ·(intro hx;have:x*k=(X b-(d-k*x))*k⁻¹*k:=by rw[<-hx]);have e2:(X b-(d-k*x))*k⁻¹*k=(X b-(d-k*x)):=by grind
   grind
  {intro hx;rw[hx];grind}
 have hpg:∀ i,(D.piv r e).fs[i]?=(D.fs[i]?).map fun l=>if i=r then vE old e else sbs l e (vE old e):=fun i=>by show (bO r e (vE (D.fs.getD r []) e) 0 D.fs)[i]?=_;rw[hg,j1];simp
 have hnb:(D.piv r e).nb=D.nb.set e b:=by show D.nb.set e (D.bs.getD r 0)=_;rw[hbD]
 have hbs:(D.piv r e).bs=D.bs.set r (D.nb.getD e 0):=rfl;constructor
 ·(intro hs;have hx:X (D.nb.getD e 0)=dot X (D.nb.set e b) (vE old e):=by have:=hs r (D.nb.getD e 0) (vE old e) (by rw[hbs,List.getElem?_set_self hr]) (by rw[hpg,hold];simp);rw[hnb] at this;exact this);intro i c l hc hli;by_cases hi:i=r
  {subst hi;rw[hb] at hc;rw[hold] at hli;cases hc;cases hli;exact key.1 hx};{have:=hs i c (sbs l e (vE old e)) (by rw[hbs,List.getElem?_set_ne (fun e=>hi e.symm)];exact hc) (by rw[hpg,hli];simp[hi]);rw[hnb,zB1 (h.row i l hli) hfl he hx] at this;exact this}
 ·intro hs;have hx:=key.2 (hs r b old hb hold);intro i c l hc hli;rw[hnb];rw[hpg] at hli;by_cases hi:i=r;{subst hi;rw[hbs,List.getElem?_set_self hr] at hc;rw[hold] at hli;simp at hli;cases hc;subst hli;exact hx}
  ·rw[hbs,List.getElem?_set_ne (fun e=>hi e.symm)] at hc;cases hf:D.fs[i]? with
   |none=>rw[hf] at hli;simp at hli| some l' =>
    rw[hf] at hli;simp[hi] at hli;subst hli;rw[zB1 (h.row i l' hf) hfl he hx];exact hs i c l' hc hf
theorem Dic.piv_val (h:D.wf)(hr:r<D.bs.length)(he:e<D.nb.length)(h0:D.at r e≠0)(hs:D.Sat X):(D.piv r e).val X=D.val X:=by
 obtain⟨b,hb⟩:=zT hr;obtain⟨old,hold⟩:=zT (l:=D.fs) (i:=r) (by rw[h.len];exact hr);have hl:=h.row r old hold;have hg:D.fs.getD r []=old:=getD_some hold;have hbD:D.bs.getD r 0=b:=getD_some hb;have h0':old.getD e 0≠0:=by unfold Dic.at at h0;rw[hg] at h0;exact h0
 have hfl:(vE old e).length=D.nb.length+1:=by rw[gQ];exact hl
 have hs':=(Dic.piv_sat h hr he h0).2 hs;have hx:X (D.nb.getD e 0)=dot X (D.nb.set e b) (vE old e):=by
  have:=hs' r (D.nb.getD e 0) (vE old e) (by show (D.bs.set r (D.nb.getD e 0))[r]?=_;rw[List.getElem?_set_self hr]) (by show (bO r e (vE (D.fs.getD r []) e) 0 D.fs)[r]?=_;rw[hg,j1,hold];simp)
  (have hnb:(D.piv r e).nb=D.nb.set e b:=by show D.nb.set e (D.bs.getD r 0)=_;rw[hbD]);rw[hnb] at this
  exact this
 show dot X (D.nb.set e (D.bs.getD r 0)) (sbs D.ob e (vE (D.fs.getD r []) e))=_;rw[hbD,hg,zB1 h.ob hfl he hx];rfl
end
end Go.Proofs.YtfainocfaddbdaaGreat
