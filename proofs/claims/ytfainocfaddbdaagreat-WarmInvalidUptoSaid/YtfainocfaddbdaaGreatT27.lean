/- A part of the proof: RwE, DvB, DvC, SoA, RoE, CoA, RdA, RdB, LwA, LwB, PlD, BrA, BrB, SpA, SpB, SpC, SpD, SpE, SpF, SpG, SpH, SpI, SpJ, SpK, SpL, SpM, SpN, SpO, SpP, SpQ, SpR, SpS, SpT, SpU, RtA, UtB, SpX, EvA, SxA, SxB. -/
import Derived.Test.YtfainocfaddbdaaGreatT26
import Derived.Test.YtfainocfaddbdaaGreatT25
import Derived.Test.YtfainocfaddbdaaGreatT24
import Derived.Laws.StructEq
import Derived.ChangeKeysEq
import Derived.Test.YtfainocfaddbdaaGreatRows
import Derived.Deep.Slices
import Derived.Deep.Strs
import Derived.Lib.SmallJoins
import Derived.KernelRfl
import Derived.ProofKit
import Derived.OpenShut
import Derived.ReadAgain
import Derived.ChangeStays
import Derived.Test.YtfainocfaddbdaaGreatT20
set_option linter.all false
namespace Go.Proofs.YtfainocfaddbdaaGreat
open Go
set_option maxRecDepth 100000
set_option maxHeartbeats 2000000

structure F.fl (f:F) (k n:Nat):Prop where
 t:∀ t,t∈f.ts->Fits k t.2
 c:Fits k f.c
 len:f.ts.length<=n
theorem F.fl.fit {f:F}{k n:Nat}(h:f.fl k n)(hn:n<2^38):f.fit k:=⟨⟨Nat.lt_of_le_of_lt h.len hn,h.t⟩,h.c⟩


abbrev fld (s : String) (o b : Nat) : Field := { name := s, type := 3, offset := o, embedded := false, tag := "", pkgPath := "", byteOffset := b }




theorem zMH {b:Bool}{A B:Unit->Prop}(h:b=true)(h1:A ()):Br (fun _=>b) A B:=vA (fun _=>h1) (fun g=>by rw[h] at g;cases g)
theorem rB {b:Bool}{A B:(Exit->PS->Prop)->Prop}{Q:Exit->PS->Prop}(h:b=true)(h1:A Q):Cut (fun _=>b) A B Q:=z9 (fun _=>h1) (fun g=>by rw[h] at g;cases g)
theorem b6 {b:Bool}{A B:(Exit->PS->Prop)->Prop}{Q:Exit->PS->Prop}(h:b=false)(h1:B Q):Cut (fun _=>b) A B Q:=z9 (fun g=>by rw[h] at g;cases g) (fun _=>h1)
def cor:List (Row×Rat)->Row->Rat
 |[],_=>0| t::r,w=>(if t.1=w then t.2 else 0)+cor r w
abbrev InW (w:World) (b i:Nat):Prop:=b<w.heap.size
def Cs (w:World):List Value->List D->Prop
 |[],[]=>True| v::vs,d::ds=>(RepD w (InW w) v d/\v.oneCell'=true)/\Cs w vs ds| _,_=>False
theorem Cs.app {w}:∀ {a x b y},Cs w a x->Cs w b y->Cs w (a++b) (x++y)
 |[],[],_,_,_,h=>h| _::_,_::_,_,_,h,g=>⟨h.1,Cs.app h.2 g⟩
theorem Cs.len {w}:∀ {a x},Cs w a x->a.length=x.length
 |[],[],_=>rfl| _::_,_::_,h=>by simp[Cs.len h.2]
theorem Cs.get {w}:∀ {a x},Cs w a x->∀ j,j<x.length->RepD w (InW w) (a.getD j undef) (x.getD j .any)/\(a.getD j undef).oneCell'=true
 |[],[],_,j,hj=>absurd hj (by simp)| _::_,_::_,h,0,_=>h.1| _::_,_::_,h,j+1,hj=>by simpa using Cs.get h.2 j (by simpa using hj)
theorem pG:∀ (a b:List PV),xM (a++b)=xM a++xM b
 |[],_=>rfl| _::a,b=>by simp[xM,pG a b]
structure ElR (w:World) (t:TypeId) (k:Nat) {α:Type} (G:α->Prop) (p:α->List PV):Prop where
 sz:Tryz.prog.cellsOf t=k
 rd:∀ {H:Type} {enc:TypeId×Value->H} {sp:Nat->Bool} {n:Nat} {cs:List Value} {x:DataW H×List MemPlace},DataW.trod enc Tryz.prog w 0 sp true n t cs=some x->∃ a,G a/\Cs w cs (xM (p a))
theorem ElR.map {w t k}{α β:Type}{G:α->Prop}{p:α->List PV}{G':β->Prop}{p':β->List PV}(h:ElR w t k G p)(f:α->β)(hp:∀ a,G a->xM (p' (f a))=xM (p a))(hG:∀ a,G a->G' (f a)):ElR w t k G' p' :=
 ⟨h.sz,fun hx=>by obtain⟨a,h1,h2⟩:=h.rd hx;exact⟨f a,hG a h1,by rw[hp a h1];exact h2⟩⟩
theorem zMF {w t}{k:IntKind}(ht:Tryz.prog.underlying t=some (.int k))(hs:Tryz.prog.cellsOf t=1):ElR w t 1 (fun n=>(Lit.int k n).wf=true) (fun n=>[.int k (fun _=>n)]) :=
 ⟨hs,fun {H enc sp n cs x} hx=>by
  cases n with
  |zero=>simp[DataW.trod] at hx| succ n =>
   (unfold DataW.trod at hx;rw[ht] at hx;split at hx <;> simp_all);obtain⟨⟨rfl,h2⟩,_⟩:=hx
   exact⟨_,h2,⟨.int _ _,rfl⟩,trivial⟩⟩
theorem zN3 {w t}(ht:Tryz.prog.underlying t=some .bool)(hs:Tryz.prog.cellsOf t=1):ElR w t 1 (fun _=>True) (fun b=>[.bool (fun _=>b)]) :=
 ⟨hs,fun {H enc sp n cs x} hx=>by
  cases n with
  |zero=>simp[DataW.trod] at hx| succ n =>
   unfold DataW.trod at hx;rw[ht] at hx;split at hx;{exact⟨_,trivial,⟨.bool _,rfl⟩,trivial⟩}
   all_goals simp_all⟩
theorem zOG {b o n:Nat}:(⟨b,o,none⟩:Addr).add n=⟨b,o+n,none⟩:=by unfold Addr.add;split;{rename_i h;rw[h];rfl};{rfl}
theorem rInt (w:World):ElR w 3 1 (fun n=>(Lit.int .i64 n).wf=true) (fun n=>[.int .i64 (fun _=>n)]):=zMF Tryz.underlying3 (by kernel_rfl)
theorem zOZ (w:World):ElR w 4 1 (fun _=>True) (fun b=>[.bool (fun _=>b)]):=zN3 Tryz.underlying4 (by kernel_rfl)
theorem rU32 (w:World):ElR w 144 1 (fun _=>True) (fun x:UInt32=>[.int .u32 (fun _=>(x.toNat:Int))]) :=
 (zMF (k:=.u32) Tryz.underlying144 (by kernel_rfl)).map (fun n=>UInt32.ofNat n.toNat) (fun n h=>by
  (have:0<=n/\n<=4294967295:=by simpa[Lit.wf,IntKind.min,IntKind.max,IntKind.signed,IntKind.bits] using h);have e:((UInt32.ofNat n.toNat).toNat:Int)=n:=by rw[UInt32.toNat_ofNat_of_lt' (by show n.toNat<4294967296;omega)];omega
  show [D.int .u32 _]=[D.int .u32 _];rw[e]) (fun _ _=>trivial)
end Go.Proofs.YtfainocfaddbdaaGreat
namespace Go.Proofs.YtfainocfaddbdaaGreat
open Go Go.ChangeShapes Go.WideShapes Go.ChangeAt Go.RowKit
set_option maxRecDepth 100000
theorem own:ownKnob Tryz.prog.godebug=none:=by kernel_rfl
theorem kids:Kids Tryz.prog (·<Tryz.prog.types.size):=kids_rows (by kernel_rfl) (by kernel_rfl)
theorem zNZ:∀ t e,t<Tryz.prog.types.size->Tryz.prog.underlying t=some (.slice e)->0<Tryz.prog.cellsOf e:=slices_full_of _ (by kernel_rfl)
theorem a7 {H:Type}{enc:TypeId×Value->H}{W W':World}{sp:Nat->Bool}:∀ {ts:List TypeId} {vs:List Value} {ds:List (DataW H)} {ps:List MemPlace},(∀ t∈ts,t<Tryz.prog.types.size) ->DataW.TrodAll enc Tryz.prog W 0 (fun _=>true) true ts vs ds ps->(∀ p∈ps,W.sameAt W' p)->(∀ p∈ps,sp p.block=true)->DataW.TrodAll enc Tryz.prog W' 0 sp true ts vs ds ps
 |[],[],[],_,_,h,_,_=>h| _::_,_::_,_::_,_,hT,⟨p,q,⟨n,h1⟩,h2,e⟩,hs,hb=>by subst e;refine⟨p,q,⟨n,?_⟩,a7 (fun t ht=>hT t (List.mem_cons_of_mem _ ht)) h2 (fun x hx=>hs x (List.mem_append_right _ hx)) (fun x hx=>hb x (List.mem_append_right _ hx)),rfl⟩;exact DataW.trod_respare kids zNZ n _ _ _ (hT _ List.mem_cons_self) (DataW.trod_carry n _ _ _ h1 (fun x hx=>hs x (List.mem_append_left _ hx))) (fun x hx=>hb x (List.mem_append_left _ hx))
theorem zD1 {W W':World}(hs:W.heap.size<=W'.heap.size)(ho:W'.os=W.os)(hu:W'.output=W.output)(hb:∀ b,b<W.heap.size->W'.heap[b]?=W.heap[b]?)(may:MemPlace->Prop):W.keptBut W' may:=by
 refine⟨ho,hu,fun i hi=>?_⟩;rw[hb i hi];have:W.heap[i]?=some W.heap[i]:=by simp[hi]
 rw[this];cases W.heap[i] with
 |cells c t fr=>exact⟨rfl,rfl,rfl,fun _ _=>rfl⟩| map es clock=>exact .inr ⟨rfl,rfl⟩| _=>rfl
theorem zIR {s:ChangeSpec}{fn:Func}{H:Type}{enc:TypeId×Value->H}{W:World}{args:Array Value}{ds gs:List (DataW H)}{before:List MemPlace}{fresh handsOn again:Bool} (hv:s.vars=[]) (hres:fn.resultTypes=#[4]) (hsp:s.fn H ds={ results:=[.lit (.bool true)],args:=ds }) (hp:∀ t∈fn.params.toList,t<Tryz.prog.types.size)
  (hW:DataW.Whole enc Tryz.prog fn.params.toList s.vars false W args.toList ds gs before)
  {f:FuncId} {pvs:List PV} (hS:zM f pvs (.bool (fun _=>true))) (hn:args.size=pvs.length) (hrep:∀ j,j<pvs.length->Rep W (InW W) β0 (args.getD j undef) (pvs.getD j .any)) :
  Calls Tryz.prog f args W fun e W'=>∃ v,e=.returned v/\s.post enc Tryz.prog fn false fresh handsOn again W args v W':=by
 have hgo:=hS.go W (InW W) β0 args (fun b i h=>h) zJS hn hrep;rw[xX] at hgo;refine hgo.mono fun e W' ⟨v,S',β',he,hl,hr,_⟩=>?_;subst he;have hvt:v=.bool true:=by
  cases hr with
  |c hf h=>cases h;rfl
 subst hvt;refine⟨_,rfl,?_⟩;have hsame:∀ b,b<W.heap.size->W'.heap[b]?=W.heap[b]?:=fun b hb=>hl.same b hb (fun⟨n,o,h,_⟩=>by simp at h);have hlt:=hW.lt;have hW0:=hW;obtain⟨p,q,hA,hV,rfl,hfz,hnd⟩:=hW;rw[hv] at hV;obtain⟨rfl,rfl⟩:=trodVars_none hV;rw[List.append_nil] at hlt hfz hW0;have hat:∀ x∈p,W.sameAt W' x:=fun x hx=>by
  have:=hlt x hx;cases x with
  |cell b o=>show W'.cell? _=W.cell? _;unfold World.cell?;rw[hsame b this]| map b=>exact hsame b this
 have hargs:∀ sp:Nat->Bool,(∀ x∈p,sp x.block=true)->DataW.TrodAll enc Tryz.prog W' 0 sp true fn.params.toList args.toList ds p:=fun sp h=>a7 hp hA hat h;have hold:∀ x∈p,(fun b=>decide (b<W.heap.size)) x.block=true:=fun x hx=>by simpa using hlt x hx
 have hrs:∀ (b:Nat) (sp:Nat->Bool) (hd:Bool),DataW.TrodAll enc Tryz.prog W' b sp hd fn.resultTypes.toList ((Value.bool true).resultList fn.resultTypes.size) [.lit (.bool true)] []:=fun b sp hd=>by rw[hres];exact⟨[],[],shut_bool Tryz.underlying4 true,rfl,rfl⟩
 have hfz':W'.noneFrozen p:=fun b o h=>by have g:=hfz b o h;have hb:b<W.heap.size:=hlt _ h;unfold World.frozen? at g ⊢;rw[hsame b hb];exact g
 refine⟨ds,[],p,[],p,[],hW0,?_,?_,?_,?_,fun _=>⟨?_,ds.cons (.lit (.bool true)),[],p,⟨p,[],?_,?_,by simp,hfz',fun h=>by cases h⟩,fun x hx _=>hx⟩⟩;{rw[List.append_nil,hsp];exact hrs _ _ _};{rw[List.append_nil,hsp];exact hargs _ hold};{rw[List.append_nil,hsp,hv];rfl};{exact zD1 hl.size hl.os hl.output hsame _};{exact ok_one hres rfl (okWide_bool_mk Tryz.underlying4 _)};{exact trodAll_append (hargs _ (fun _ _=>rfl)) (hrs _ _ _)};{rw[hv];rfl}
end Go.Proofs.YtfainocfaddbdaaGreat
namespace Go.Proofs.YtfainocfaddbdaaGreat
open Go
set_option maxRecDepth 100000
set_option maxHeartbeats 4000000
def na (raw:List UInt8) (a:Nat):Nat:=if a<raw.length then a+1 else a

structure F.wf (f:F) (n:Int):Prop where
 cn:Cn f.ts
 v:∀ t,t∈f.ts->0<=t.1/\t.1<n



theorem zLW {N:Int}:∀ {ts:List (Int×Rat)} {p:Int},Cn ts->(∀ t,t∈ts->p<t.1/\0<=t.1/\t.1<N)->vT N p (tR ts)=true
 |[],_,_,_=>rfl| t::r,p,hc,h=>by obtain⟨h1,h2,h3⟩:=h t List.mem_cons_self;have ih:=zLW (N:=N) (p:=t.1) hc.tail (fun u hu=>⟨hc.lt u hu,(h u (List.mem_cons_of_mem _ hu)).2⟩);show (decide (0<=t.1)&&decide (t.1<N)&&decide (p<t.1)&&decide ((zS t.2).q≠0)&&(zS t.2).ok&&vT N t.1 (tR r))=true;rw[ih,xF,zFR,decide_eq_true h1,decide_eq_true h2,decide_eq_true h3,decide_eq_true hc.hd];rfl
theorem F.wf.valid {f:F}{n:Int}(h:f.wf n):(fA f).valid n=true:=by have h1:=zLW (N:=n) (p:=-1) h.cn (fun t ht=>⟨by have:=(h.v t ht).1;omega,(h.v t ht).1,(h.v t ht).2⟩);show (vT n (-1) (tR f.ts)&&(zS f.c).ok)=true;rw[h1,zFR];rfl
theorem zOF {l:List F}{n:Int}(h:∀ f,f∈l->f.wf n):(l.map fA).all (A.valid n)=true:=by rw[List.all_eq_true];intro a ha;obtain⟨f,hf,rfl⟩:=List.mem_map.1 ha;exact (h f hf).valid













def evX (X:Int->Rat):List (Int×Rat)->Rat
 |[]=>0| t::r=>t.2*X t.1+evX X r
def F.at (f:F) (X:Int->Rat):Rat:=f.c+evX X f.ts
theorem zL7 {x:R}(h:x.ok=true):zS x.q=x:=(of_decide_eq_true h).symm
theorem zB9 {vars:Int}:∀ {ts:List (Int×R)} {p:Int},vT vars p ts=true->tR (tq ts)=ts/\Cn (tq ts)/\∀ t,t∈tq ts->p<t.1
 |[],p,_=>⟨rfl,Cn.nil,fun t h=>absurd h (by simp[tq])⟩| t::r,p,h=>by rw[nD] at h;simp only[Bool.and_eq_true,decide_eq_true_eq] at h;obtain⟨⟨⟨⟨⟨h1,h2⟩,h3⟩,h4⟩,h5⟩,h6⟩:=h;obtain⟨g1,g2,g3⟩:=zB9 h6;refine⟨?_,?_,fun u hu=>?_⟩;{show (t.1,zS t.2.q)::tR (tq r)=t::r;rw[g1,zL7 h5]};{exact Cn.cons (t:=(t.1,t.2.q)) g2 g3 h4};{rcases List.mem_cons.1 hu with rfl|hu;{exact h3};{have:=g3 u hu;omega}}
theorem zBL {a:A}{vars:Int}(h:a.valid vars=true):fA a.f=a/\Cn a.f.ts:=by unfold A.valid at h;simp only[Bool.and_eq_true] at h;obtain⟨g1,g2,_⟩:=zB9 h.1;refine⟨?_,g2⟩;obtain⟨ts,c⟩:=a;show (⟨tR (tq ts),zS c.q⟩:A)=⟨ts,c⟩;rw[g1,zL7 h.2]

def xr (l:List Rat):Int->Rat:=fun v=>(l[v.toNat]?).getD 0
theorem zJA {f:F}{X Y:Int->Rat}(h:∀ t,t∈f.ts->X t.1=Y t.1):f.at X=f.at Y:=by
 unfold F.at
 congr 1;generalize f.ts=l at *
 induction l with
 |nil=>rfl| cons t r ih =>
  unfold evX;rw[h t List.mem_cons_self,ih fun u hu=>h u (List.mem_cons_of_mem _ hu)]

def dot (X:Nat->Rat):List Nat->List Rat->Rat
 |[],l=>l.headD 0| v::vs,l=>l.headD 0*X v+dot X vs l.tail
def k8 (a:Rat):List Rat->List Rat->List Rat
 |x::l,y::m=>(x+a*y)::k8 a l m| l,_=>l
theorem kY (a:Rat):∀ l m:List Rat,(k8 a l m).length=l.length
 |[],_=>by unfold k8;rfl
 |x::l,[]=>by unfold k8;rfl
 |x::l,y::m=>by unfold k8;rw[List.length_cons,List.length_cons,kY a l m]
theorem tC (a:Rat):∀ (l m:List Rat) (j:Nat),l.length=m.length->(k8 a l m).getD j 0=l.getD j 0+a*m.getD j 0
 |[],[],j,_=>by simp[k8];grind| x::l,[],j,h=>by simp at h| [],y::m,j,h=>by simp at h| x::l,y::m,0,h=>by simp[k8]| x::l,y::m,j+1,h=>by have:=tC a l m j (by simpa using h);simpa[k8] using this
theorem zDK (X:Nat->Rat)(a:Rat):∀ (nb:List Nat) (l m:List Rat),l.length=nb.length+1->m.length=nb.length+1->dot X nb (k8 a l m)=dot X nb l+a*dot X nb m
 |[],[x],[y],_,_=>by simp[dot,k8]| [],[],_,h,_=>by simp at h| [],x::y::l,_,h,_=>by simp at h| [],[x],[],_,h=>by simp at h| [],[x],y::z::m,_,h=>by simp at h| v::vs,[],_,h,_=>by simp at h| v::vs,x::l,[],_,h=>by simp at h| v::vs,x::l,y::m,h1,h2=>by have:=zDK X a vs l m (by simpa using h1) (by simpa using h2);simp only[dot,k8,List.headD_cons,List.tail_cons];rw[this];grind
theorem p5 (X:Nat->Rat)(b:Nat)(k:Rat):∀ (nb:List Nat) (l:List Rat) (e:Nat),l.length=nb.length+1->e<nb.length->dot X (nb.set e b) (l.set e k)=dot X nb l-l.getD e 0*X (nb.getD e 0)+k*X b
 |[],_,e,_,h=>by simp at h| v::vs,[],e,h,_=>by simp at h| v::vs,x::l,0,_,_=>by simp[dot];grind| v::vs,x::l,e+1,h1,h2=>by have:=p5 X b k vs l e (by simpa using h1) (by simpa using h2);simp only[List.set_cons_succ,dot,List.headD_cons,List.tail_cons,List.getD_cons_succ];rw[this];grind
theorem kN {X Y:Nat->Rat}:∀ {nb:List Nat} {l:List Rat},(∀ v,v∈nb->X v=Y v)->dot X nb l=dot Y nb l
 |[],l,_=>rfl| v::vs,l,h=>by simp only[dot];rw[h v List.mem_cons_self,kN (nb:=vs) fun w hw=>h w (List.mem_cons_of_mem _ hw)]
theorem jY {X:Nat->Rat}:∀ {nb:List Nat} {l:List Rat},(∀ v,v∈nb->X v=0)->dot X nb l=l.getD nb.length 0
 |[],l,_=>by cases l <;> rfl
 |v::vs,l,h=>by
  (simp only[dot];rw[h v List.mem_cons_self,jY (nb:=vs) fun w hw=>h w (List.mem_cons_of_mem _ hw)];cases l <;> simp);{grind}
  {grind}
theorem cN {X:Nat->Rat}:∀ {nb:List Nat} {l:List Rat} {e:Nat},nb.Nodup->e<nb.length->(∀ j,j<nb.length->j≠e->X (nb.getD j 0)=0)->dot X nb l=l.getD e 0*X (nb.getD e 0)+l.getD nb.length 0
 |[],_,e,_,h,_=>by simp at h| v::vs,l,0,hn,_,h=>by simp only[dot];rw[jY (nb:=vs) fun w hw=>by obtain⟨j,hj,rfl⟩:=List.getElem_of_mem hw;have:=h (j+1) (by simpa using hj) (by omega);simpa[hj] using this];cases l <;> simp
 |v::vs,l,e+1,hn,he,h=>by
  simp only[dot];rw[cN (nb:=vs) (e:=e) (List.nodup_cons.1 hn).2 (by simpa using he) fun j hj hne=>by have:=h (j+1) (by simpa using hj) (by omega);simpa using this]
  (have h0:=h 0 (by simp) (by omega);simp only[List.getD_cons_zero] at h0;rw[h0];cases l <;> simp);{grind}
  {grind}
def sbs (l:List Rat) (e:Nat) (form:List Rat):List Rat:=k8 (l.getD e 0) (l.set e 0) form
theorem nG (l:List Rat)(e:Nat)(form:List Rat):(sbs l e form).length=l.length:=by unfold sbs;rw[kY,List.length_set]
theorem zH9 {l:List Rat}{e:Nat}{form:List Rat}(h:l.getD e 0=0)(hl:l.length=form.length):sbs l e form=l:=by
 unfold sbs;rw[h];apply List.ext_getElem?;intro j;have h1:=tC 0 (l.set e 0) form j (by rw[List.length_set];exact hl);have hlen:=kY 0 (l.set e 0) form;rw[List.length_set] at hlen;by_cases hj:j<l.length
 ·(rw[List.getElem?_eq_getElem (by omega),List.getElem?_eq_getElem hj];congr 1;rw[List.getD_eq_getElem?_getD,List.getElem?_eq_getElem (by omega)] at h1;have h2:(l.set e 0).getD j 0=l[j]:=by rw[List.getD_eq_getElem?_getD,List.getElem?_set];by_cases he:e=j;{subst he;rw[if_pos rfl,if_pos hj];rw[List.getD_eq_getElem?_getD,List.getElem?_eq_getElem hj] at h;exact h.symm};{rw[if_neg he,List.getElem?_eq_getElem hj];rfl});rw[h2] at h1;simp only[Option.getD_some] at h1;rw[h1];grind
 {rw[List.getElem?_eq_none (by omega),List.getElem?_eq_none (by omega)]}
def vF (old:List Rat) (e:Nat):List Rat:=(old.map fun c=>-c/old.getD e 0).set e (1/old.getD e 0)
theorem gG (old:List Rat)(e:Nat):(vF old e).length=old.length:=by unfold vF;rw[List.length_set,List.length_map]
theorem zBG (X:Nat->Rat)(k:Rat):∀ (nb:List Nat) (l:List Rat),dot X nb (l.map fun c=>c*k)=dot X nb l*k
 |[],l=>by cases l <;> simp[dot]
 |v::vs,l=>by
  simp only[dot];cases l with
  |nil =>
   have:=zBG X k vs [];simp only[List.map_nil,List.headD_nil,List.tail_nil] at this ⊢;rw[this];grind
  |cons x l =>
   have:=zBG X k vs l;simp only[List.map_cons,List.headD_cons,List.tail_cons];rw[this];grind
theorem zHI {X:Nat->Rat}{nb:List Nat}{old:List Rat}{e b:Nat}(hl:old.length=nb.length+1)(he:e<nb.length)(h0:old.getD e 0≠0):dot X (nb.set e b) (vF old e)=(X b-(dot X nb old-old.getD e 0*X (nb.getD e 0)))/old.getD e 0:=by
 unfold vF;have e1:(old.map fun c=>-c/old.getD e 0)=old.map fun c=>c*(-1/old.getD e 0):=by apply List.map_congr_left;intro c _;rw[Rat.div_def,Rat.div_def];grind
 rw[p5 X b _ nb _ e (by rw[List.length_map];exact hl) he,e1,zBG];have e2:(old.map fun c=>c*(-1/old.getD e 0)).getD e 0=old.getD e 0*(-1/old.getD e 0):=by
  rw[List.getD_eq_getElem?_getD,List.getElem?_map,List.getD_eq_getElem?_getD];cases old[e]? with
  |none=>simp| some c=>rfl
 rw[e2];generalize old.getD e 0=k at *
 rw[Rat.div_def,Rat.div_def,Rat.div_def];have hk:k*k⁻¹=1:=Rat.mul_inv_cancel k h0;grind
theorem zBF {X:Nat->Rat}{nb:List Nat}{l form:List Rat}{e b:Nat}(hl:l.length=nb.length+1)(hf:form.length=nb.length+1)(he:e<nb.length)(hX:X (nb.getD e 0)=dot X (nb.set e b) form):dot X (nb.set e b) (sbs l e form)=dot X nb l:=by unfold sbs;rw[zDK X _ _ _ _ (by rw[List.length_set,List.length_set];exact hl) (by rw[List.length_set];exact hf),p5 X b 0 nb l e hl he,<-hX];grind
structure Dic where
 bs:List Nat
 nb:List Nat
 fs:List (List Rat)
 ob:List Rat
structure Dic.wf (D:Dic):Prop where
 len:D.fs.length=D.bs.length
 row:∀ (i:Nat) l,D.fs[i]?=some l->l.length=D.nb.length+1
 ob:D.ob.length=D.nb.length+1
 nd:(D.bs++D.nb).Nodup
def Dic.Sat (D:Dic) (X:Nat->Rat):Prop:=∀ (i:Nat) b l,D.bs[i]?=some b->D.fs[i]?=some l->X b=dot X D.nb l
def Dic.val (D:Dic) (X:Nat->Rat):Rat:=dot X D.nb D.ob
def Dic.at (D:Dic) (i j:Nat):Rat:=(D.fs.getD i []).getD j 0
def c7 (r e:Nat) (form:List Rat):Nat->List (List Rat)->List (List Rat)
 |_,[]=>[]| i,l::ls=>(if i=r then form else sbs l e form)::c7 r e form (i+1) ls
theorem r5 (r e:Nat)(form:List Rat):∀ (i:Nat) (ls:List (List Rat)),(c7 r e form i ls).length=ls.length
 |_,[]=>rfl| i,l::ls=>by simp only[c7,List.length_cons,r5 r e form (i+1) ls]
theorem jU (r e:Nat)(form:List Rat):∀ (i:Nat) (ls:List (List Rat)) (k:Nat),(c7 r e form i ls)[k]?=(ls[k]?).map fun l=>if i+k=r then form else sbs l e form
 |_,[],k=>by simp[c7]| i,l::ls,0=>by simp[c7]| i,l::ls,k+1=>by simp only[c7,List.getElem?_cons_succ];rw[jU r e form (i+1) ls k,show i+1+k=i+(k+1) by omega]
def Dic.piv (D:Dic) (r e:Nat):Dic :=
 let form:=vF (D.fs.getD r []) e
 ⟨D.bs.set r (D.nb.getD e 0),D.nb.set e (D.bs.getD r 0),c7 r e form 0 D.fs,sbs D.ob e form⟩
theorem getD_some {α:Type}{l:List α}{i:Nat}{a d:α}(h:l[i]?=some a):l.getD i d=a:=by rw[List.getD_eq_getElem?_getD,h];rfl
theorem yT {α:Type}{l:List α}{i:Nat}{a:α}(h:l[i]?=some a):i<l.length:=(List.getElem?_eq_some_iff.1 h).1
theorem zV {α:Type}{l:List α}{i:Nat}(h:i<l.length):∃ a,l[i]?=some a:=⟨l[i],by simp[h]⟩
section
variable {D:Dic} {r e:Nat} {X:Nat->Rat}
theorem Dic.piv_sat (h:D.wf)(hr:r<D.bs.length)(he:e<D.nb.length)(h0:D.at r e≠0):(D.piv r e).Sat X↔D.Sat X:=by
 obtain⟨b,hb⟩:=zV hr;obtain⟨old,hold⟩:=zV (l:=D.fs) (i:=r) (by rw[h.len];exact hr);have hl:=h.row r old hold;have hg:D.fs.getD r []=old:=getD_some hold;have hbD:D.bs.getD r 0=b:=getD_some hb;have h0':old.getD e 0≠0:=by unfold Dic.at at h0;rw[hg] at h0;exact h0
 have hfl:(vF old e).length=D.nb.length+1:=by rw[gG];exact hl
 have key:X (D.nb.getD e 0)=dot X (D.nb.set e b) (vF old e)↔X b=dot X D.nb old:=by
  rw[zHI hl he h0'];generalize old.getD e 0=k at *
  generalize X (D.nb.getD e 0)=x;generalize dot X D.nb old=d;have hk:k*k⁻¹=1:=Rat.mul_inv_cancel k h0';rw[Rat.div_def];constructor
  ·(intro hx;have:x*k=(X b-(d-k*x))*k⁻¹*k:=by rw[<-hx]);have e2:(X b-(d-k*x))*k⁻¹*k=(X b-(d-k*x)):=by grind
   grind
  {intro hx;rw[hx];grind}
 have hpg:∀ i,(D.piv r e).fs[i]?=(D.fs[i]?).map fun l=>if i=r then vF old e else sbs l e (vF old e):=fun i=>by show (c7 r e (vF (D.fs.getD r []) e) 0 D.fs)[i]?=_;rw[hg,jU];simp
 have hnb:(D.piv r e).nb=D.nb.set e b:=by show D.nb.set e (D.bs.getD r 0)=_;rw[hbD]
 have hbs:(D.piv r e).bs=D.bs.set r (D.nb.getD e 0):=rfl;constructor
 ·(intro hs;have hx:X (D.nb.getD e 0)=dot X (D.nb.set e b) (vF old e):=by have:=hs r (D.nb.getD e 0) (vF old e) (by rw[hbs,List.getElem?_set_self hr]) (by rw[hpg,hold];simp);rw[hnb] at this;exact this);intro i c l hc hli;by_cases hi:i=r
  {subst hi;rw[hb] at hc;rw[hold] at hli;cases hc;cases hli;exact key.1 hx};{have:=hs i c (sbs l e (vF old e)) (by rw[hbs,List.getElem?_set_ne (fun e=>hi e.symm)];exact hc) (by rw[hpg,hli];simp[hi]);rw[hnb,zBF (h.row i l hli) hfl he hx] at this;exact this}
 ·intro hs;have hx:=key.2 (hs r b old hb hold);intro i c l hc hli;rw[hnb];rw[hpg] at hli;by_cases hi:i=r;{subst hi;rw[hbs,List.getElem?_set_self hr] at hc;rw[hold] at hli;simp at hli;cases hc;subst hli;exact hx}
  ·rw[hbs,List.getElem?_set_ne (fun e=>hi e.symm)] at hc;cases hf:D.fs[i]? with
   |none=>rw[hf] at hli;simp at hli| some l' =>
    rw[hf] at hli;simp[hi] at hli;subst hli;rw[zBF (h.row i l' hf) hfl he hx];exact hs i c l' hc hf
theorem Dic.piv_val (h:D.wf)(hr:r<D.bs.length)(he:e<D.nb.length)(h0:D.at r e≠0)(hs:D.Sat X):(D.piv r e).val X=D.val X:=by
 obtain⟨b,hb⟩:=zV hr;obtain⟨old,hold⟩:=zV (l:=D.fs) (i:=r) (by rw[h.len];exact hr);have hl:=h.row r old hold;have hg:D.fs.getD r []=old:=getD_some hold;have hbD:D.bs.getD r 0=b:=getD_some hb;have h0':old.getD e 0≠0:=by unfold Dic.at at h0;rw[hg] at h0;exact h0
 have hfl:(vF old e).length=D.nb.length+1:=by rw[gG];exact hl
 have hs':=(Dic.piv_sat h hr he h0).2 hs;have hx:X (D.nb.getD e 0)=dot X (D.nb.set e b) (vF old e):=by
  have:=hs' r (D.nb.getD e 0) (vF old e) (by show (D.bs.set r (D.nb.getD e 0))[r]?=_;rw[List.getElem?_set_self hr]) (by show (c7 r e (vF (D.fs.getD r []) e) 0 D.fs)[r]?=_;rw[hg,jU,hold];simp)
  (have hnb:(D.piv r e).nb=D.nb.set e b:=by show D.nb.set e (D.bs.getD r 0)=_;rw[hbD]);rw[hnb] at this
  exact this
 show dot X (D.nb.set e (D.bs.getD r 0)) (sbs D.ob e (vF (D.fs.getD r []) e))=_;rw[hbD,hg,zBF h.ob hfl he hx];rfl
end
theorem v6 {α:Type}{l:List α}{i j:Nat}{a:α}(h:l.Nodup)(hi:l[i]?=some a)(hj:l[j]?=some a):i=j :=
 (List.getElem?_inj (yT hi) h).1 (hi.trans hj.symm)
theorem tI {α:Type}{l:List α}{i:Nat}{x y:α}(h:l[i]?=some x):l=l.take i++x::l.drop (i+1)/\l.set i y=l.take i++y::l.drop (i+1):=by
 have hi:=yT h;constructor
 ·(have h1:=List.take_append_drop i l;rw[List.drop_eq_getElem_cons hi] at h1;have h2:l[i]=x:=by rw[List.getElem?_eq_getElem hi] at h;exact Option.some.inj h);rw[h2] at h1
  exact h1.symm
 {rw[List.set_eq_take_append_cons_drop,if_pos hi]}
theorem zGO {α:Type}{l m:List α}{i j:Nat}{x y:α}(h1:l[i]?=some x)(h2:m[j]?=some y):(l.set i y++m.set j x).Perm (l++m):=by
 obtain⟨a1,a2⟩:=tI (y:=y) h1;obtain⟨b1,b2⟩:=tI (y:=x) h2;rw[a2,b2]
 conv=>rhs;rw[a1,b1]
 generalize l.take i=p;generalize l.drop (i+1)=q;generalize m.take j=r;generalize m.drop (j+1)=s;have key:∀ u v:α,(p++u::q++(r++v::s)).Perm (u::v::(p++q++(r++s))):=fun u v=>by
  (have e0:p++u::q++(r++v::s)=p++u::(q++(r++v::s)):=by simp);have e:p++(q++(r++v::s))=(p++q++r)++v::s:=by simp
  (have e2:p++q++(r++s)=(p++q++r)++s:=by simp);rw[e0,e2]
  refine List.perm_middle.trans (List.Perm.cons u ?_);rw[e];exact List.perm_middle
 exact (key y x).trans ((List.Perm.swap _ _ _).trans (key x y).symm)
theorem mS {α:Type}{l:List α}{i:Nat}{x y v:α}(hn:l.Nodup)(h:l[i]?=some x):v∈l.set i y↔v=y\/(v∈l/\v≠x):=by
 obtain⟨a1,a2⟩:=tI (y:=y) h;rw[a2];have hn':=hn;rw[a1] at hn';have hp:(x::(l.take i++l.drop (i+1))).Nodup:=(List.perm_middle.nodup_iff).1 hn';have hx:=(List.nodup_cons.1 hp).1;have hl:v∈l↔v=x\/v∈l.take i++l.drop (i+1):=by
  conv=>lhs;rw[a1]
  simp only[List.mem_append,List.mem_cons];constructor <;> (intro h;rcases h with h|h|h <;> simp[h])
 rw[hl];constructor
 ·(intro hv;have:v=y\/v∈l.take i++l.drop (i+1):=by simp only[List.mem_append,List.mem_cons] at hv ⊢;rcases hv with h|h|h <;> simp[h]);rcases this with h|h;{exact .inl h};{exact .inr ⟨.inr h,fun e=>hx (e ▸ h)⟩}
 {intro hv;simp only[List.mem_append,List.mem_cons];rcases hv with h|⟨h,h'⟩;{exact .inr (.inl h)};{rcases h.resolve_left h' with h;rcases List.mem_append.1 h with h|h;{exact .inl h};{exact .inr (.inr h)}}}
section
variable {D:Dic} {r e:Nat} {X Y:Nat->Rat}
theorem Dic.wf.nb (h:D.wf):D.nb.Nodup:=(List.nodup_append.1 h.nd).2.1
theorem Dic.wf.bs (h:D.wf):D.bs.Nodup:=(List.nodup_append.1 h.nd).1
theorem Dic.wf.ne (h:D.wf){v:Nat}(h1:v∈D.bs)(h2:v∈D.nb):False:=(List.nodup_append.1 h.nd).2.2 v h1 v h2 rfl
theorem Dic.piv_wf (h:D.wf)(hr:r<D.bs.length)(he:e<D.nb.length):(D.piv r e).wf:=by
 obtain⟨b,hb⟩:=zV hr;obtain⟨y,hy⟩:=zV he;obtain⟨old,hold⟩:=zV (l:=D.fs) (i:=r) (by rw[h.len];exact hr);have hl:=h.row r old hold;have hg:D.fs.getD r []=old:=getD_some hold;refine⟨?_,fun i l hl'=>?_,?_,?_⟩;{show (c7 r e _ 0 D.fs).length=(D.bs.set r _).length;rw[r5,List.length_set];exact h.len}
 ·have:(c7 r e (vF (D.fs.getD r []) e) 0 D.fs)[i]?=some l:=hl';rw[jU] at this;show l.length=(D.nb.set e _).length+1;rw[List.length_set];cases hf:D.fs[i]? with
  |none=>rw[hf] at this;simp at this| some m =>
   rw[hf] at this;simp only[Option.map_some,Option.some.injEq] at this;rw[<-this];split;{rw[gG,hg];exact hl};{rw[nG];exact h.row i m hf}
 {show (sbs D.ob e _).length=(D.nb.set e _).length+1;rw[nG,List.length_set];exact h.ob};{show (D.bs.set r (D.nb.getD e 0)++D.nb.set e (D.bs.getD r 0)).Nodup;rw[getD_some hb,getD_some hy];exact (zGO hb hy).nodup_iff.2 h.nd}
theorem Dic.piv_bs (h:D.wf){b y:Nat}(hb:D.bs[r]?=some b)(hy:D.nb[e]?=some y)(v:Nat):v∈(D.piv r e).bs↔v=y\/(v∈D.bs/\v≠b):=by show v∈D.bs.set r (D.nb.getD e 0)↔_;rw[getD_some hy];exact mS h.bs hb
theorem Dic.piv_nb (h:D.wf){b y:Nat}(hb:D.bs[r]?=some b)(hy:D.nb[e]?=some y)(v:Nat):v∈(D.piv r e).nb↔v=b\/(v∈D.nb/\v≠y):=by show v∈D.nb.set e (D.bs.getD r 0)↔_;rw[getD_some hb];exact mS h.nb hy
def Dic.ext (D:Dic) (y:Nat->Rat):Nat->Rat:=fun v=>if v∈D.bs then dot y D.nb (D.fs.getD (D.bs.idxOf v) []) else y v
theorem Dic.ext_nb (h:D.wf)(y:Nat->Rat){v:Nat}(hv:v∈D.nb):D.ext y v=y v:=if_neg fun hb=>h.ne hb hv
theorem Dic.ext_bs (h:D.wf)(y:Nat->Rat){i v:Nat}{l:List Rat}(hv:D.bs[i]?=some v)(hl:D.fs[i]?=some l):D.ext y v=dot y D.nb l:=by
 unfold Dic.ext;have hi:=yT hv;have e:D.bs[i]=v:=by rw[List.getElem?_eq_getElem hi] at hv;exact Option.some.inj hv
 rw[if_pos (List.mem_of_getElem? hv),<-e,h.bs.idxOf_getElem i hi,getD_some hl]
theorem Dic.ext_sat (h:D.wf)(y:Nat->Rat):D.Sat (D.ext y):=fun i b l hb hl=>by rw[Dic.ext_bs h y hb hl];exact kN fun v hv=>(Dic.ext_nb h y hv).symm
theorem wL {α:Type}{l:List α}{a:α}(h:a∈l):∃ i:Nat,l[i]?=some a:=List.mem_iff_getElem?.1 h
theorem Dic.row_of (h:D.wf){v:Nat}(hv:v∈D.bs):∃ (i:Nat) (l:List Rat),D.bs[i]?=some v/\D.fs[i]?=some l:=by obtain⟨i,hi⟩:=wL hv;obtain⟨l,hl⟩:=zV (l:=D.fs) (i:=i) (by rw[h.len];exact yT hi);exact⟨i,l,hi,hl⟩
theorem Dic.uniq (h:D.wf)(hX:D.Sat X)(hY:D.Sat Y)(hn:∀ v,v∈D.nb->X v=Y v){v:Nat}(hv:v∈D.bs):X v=Y v:=by obtain⟨i,l,hi,hl⟩:=Dic.row_of h hv;rw[hX i v l hi hl,hY i v l hi hl];exact kN hn
theorem Dic.uniq' (h:D.wf)(hX:D.Sat X)(hY:D.Sat Y)(hn:∀ v,v∈D.nb->X v=Y v){v:Nat}(hv:v∈D.bs\/v∈D.nb):X v=Y v:=hv.elim (Dic.uniq h hX hY hn) (hn v)
def Dic.cst (D:Dic) (i:Nat):Rat:=(D.fs.getD i []).getD D.nb.length 0
theorem Dic.zero_bs (h:D.wf){y:Nat->Rat}(hy:∀ v,v∈D.nb->y v=0){i v:Nat}(hv:D.bs[i]?=some v)(hX:D.Sat y):y v=D.cst i:=by obtain⟨l,hl⟩:=zV (l:=D.fs) (i:=i) (by rw[h.len];exact yT hv);rw[hX i v l hv hl,jY hy];unfold Dic.cst;rw[getD_some hl]
theorem Dic.one_bs (h:D.wf){y:Nat->Rat}(he:e<D.nb.length)(hy:∀ j,j<D.nb.length->j≠e->y (D.nb.getD j 0)=0){i v:Nat}(hv:D.bs[i]?=some v)(hX:D.Sat y):y v=D.at i e*y (D.nb.getD e 0)+D.cst i:=by
 obtain⟨l,hl⟩:=zV (l:=D.fs) (i:=i) (by rw[h.len];exact yT hv);rw[hX i v l hv hl,cN h.nb he hy];unfold Dic.cst Dic.at
 rw[getD_some hl]
theorem zGF:∀ {nb:List Nat} {l:List Rat},dot X nb l<l.getD nb.length 0->∃ j,j<nb.length/\l.getD j 0*X (nb.getD j 0)<0
 |[],l,h=>by
  cases l with
  |nil=>simp[dot] at h| cons a l=>simp[dot] at h
 |v::vs,l,h=>by
  by_cases h0:l.headD 0*X v<0;{exact⟨0,by simp,by cases l <;> simpa using h0⟩}
  ·have h1:dot X vs l.tail<l.tail.getD vs.length 0:=by
    (simp only[dot] at h;have e:l.tail.getD vs.length 0=l.getD (v::vs).length 0:=by cases l <;> simp);rw[e]
    grind
   obtain⟨j,hj,h2⟩:=zGF h1;refine⟨j+1,by simpa using hj,?_⟩;cases l with
   |nil=>simpa using h2| cons a l=>simpa using h2
end
end Go.Proofs.YtfainocfaddbdaaGreat
