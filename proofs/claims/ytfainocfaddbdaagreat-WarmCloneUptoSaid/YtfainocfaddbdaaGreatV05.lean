/- A part of the proof: PmD, PmE, PmF. -/
import Derived.Test.YtfainocfaddbdaaGreatV04
import Derived.Laws.BytesString
set_option linter.all false
namespace Go.Proofs.YtfainocfaddbdaaGreat
open Go
theorem nbeq {m n:Nat}(h:m≠n):nqb m n=false:=by
 cases hb:nqb m n with
 |false=>rfl| true=>exact absurd (yG hb) h
theorem zE2 {t:Nat}{x:Ty}(h:ty t=x)(hx:x≠.no):uR Pg t=x:=by rcases zO7 t with h1|h1;{exact absurd (h1 ▸ h).symm hx};{exact h1.trans h}
theorem gX (P:Program)(i:TypeInfo)(fs:Array Field):tySt P i fs=.no\/∃ zs:Array Value,i.zero=some (.agg zs)/\(∀ f,f∈fs.toList->0<P.cellsOf f.type)/\zs.size=i.size /\ tySt P i fs=.st i.size (fs.toList.map fun f=>(f.offset,P.cellsOf f.type,qJ P f.type)) (zs.toList.map wA):=by unfold tySt;split;{rename_i zs hz;split;{rename_i h;exact .inr ⟨zs,hz,h.1,h.2,rfl⟩};{exact .inl rfl}};{exact .inl rfl}
theorem gY (P:Program)(i:TypeInfo)(e:TypeId):tySl P i e=.no\/(i.size=1/\i.zero=some (.slice none 0 0)/\∃ j zv,P.info? e=some j/\j.zero=some zv/\zv.cells.size=j.size/\0<j.size/\0<j.bytes /\ tySl P i e=.sli j.size j.bytes (zv.cells.toList.map wA)):=by unfold tySl;split;{exact .inl rfl};{rename_i hs;split;{rename_i j hz0 hj;split;{rename_i zv hz;split;{rename_i h;exact .inr ⟨by omega,hz0,j,zv,hj,hz,h.1,h.2.1,h.2.2,rfl⟩};{exact .inl rfl}};{exact .inl rfl}};{exact .inl rfl}}
theorem gZ (P:Program)(i:TypeInfo)(len:Nat)(e:TypeId):tyAr P i len e=.no\/∃ zs:Array Value,i.zero=some (.agg zs)/\zs.size=i.size/\i.size=len*P.cellsOf e/\1<len/\0<P.cellsOf e/\(P.underlying e).isSome=true /\ tyAr P i len e=.arr len (P.cellsOf e) (qJ P e) (zs.toList.map wA):=by unfold tyAr;split;{rename_i zs hz;split;{rename_i h;exact .inr ⟨zs,hz,h.1,h.2.1,h.2.2.1,h.2.2.2.1,h.2.2.2.2,rfl⟩};{exact .inl rfl}};{exact .inl rfl}
theorem cM (i:TypeInfo)(d:TypeDesc):tySc i d=.no\/∃ zv,i.zero=some zv/\i.size=1/\zv.cells=#[zv]/\tySc i d=.sc (wA zv)/\(∀ k x,wA zv=.int k x->d=.int k)/\(wA zv=.ff->d=.bool) /\ (match d with|.struct _=>False|.array _ _=>False|_=>True):=by unfold tySc;split;{rename_i zv hz;split;{rename_i h;split;{rename_i k k' n;split;{rename_i hk;subst hk;exact .inr ⟨_,hz,h,rfl,rfl,fun k x hx=>by simp[wA] at hx;rw[hx.1],fun hx=>by simp[wA] at hx,trivial⟩};{exact .inl rfl}};{exact .inr ⟨_,hz,h,rfl,rfl,fun k x hx=>by simp[wA] at hx,fun _=>rfl,trivial⟩};{exact .inr ⟨_,hz,h,rfl,rfl,fun k x hx=>by simp[wA] at hx,fun hx=>by simp[wA] at hx,trivial⟩};{exact .inr ⟨_,hz,h,rfl,rfl,fun k x hx=>by simp[wA] at hx,fun hx=>by simp[wA] at hx,trivial⟩};{exact .inr ⟨_,hz,h,rfl,rfl,fun k x hx=>by simp[wA] at hx,fun hx=>by simp[wA] at hx,trivial⟩};{exact .inl rfl}};{exact .inl rfl}};{exact .inl rfl}
theorem w7 {t n b:Nat}{z:List PV}(h:ty t=.sli n b z):∃ i e j zv,Pg.info? t=some i/\i.size=1/\i.zero=some (.slice none 0 0)/\Pg.underlying t=some (.slice e)/\Pg.info? e=some j/\j.zero=some zv/\j.size=n/\j.bytes=b/\zv.cells.size=n/\0<n/\z=zv.cells.toList.map wA/\0<b:=by
 have h1:=zE2 h (by simp);unfold uR at h1;split at h1;{rename_i i fs hi hu;rcases gX Pg i fs with e|⟨zs,_,_,_,e⟩ <;> rw[e] at h1 <;> cases h1}
 ·(rename_i i e hi hu;rcases gY Pg i e with e'|⟨hi1,hi2,j,zv,hj,hz,hs,hp,hbp,e'⟩ <;> rw[e'] at h1 <;> cases h1);exact⟨i,e,j,zv,hi,hi1,hi2,hu,hj,hz,rfl,rfl,hs,hp,rfl,hbp⟩
 {rename_i i len e hi hu;rcases gZ Pg i len e with e|⟨zs,_,_,_,_,_,_,e⟩ <;> rw[e] at h1 <;> cases h1};{rename_i i d _ _ _ hi hu;rcases cM i d with e|⟨zs,_,_,_,e,_⟩ <;> rw[e] at h1 <;> cases h1};{cases h1}
theorem lP {t n:Nat}{fs:List (Nat×Nat×Bool)}{z:List PV}(h:ty t=.st n fs z):∃ i fields zs,Pg.info? t=some i/\Pg.underlying t=some (.struct fields)/\i.zero=some (.agg zs)/\i.size=n/\zs.size=n /\ fs=fields.toList.map (fun f=>(f.offset,Pg.cellsOf f.type,qJ Pg f.type))/\z=zs.toList.map wA/\∀ f,f∈fields.toList->0<Pg.cellsOf f.type:=by
 have h1:=zE2 h (by simp);unfold uR at h1;split at h1
 ·(rename_i i fs hi hu;rcases gX Pg i fs with e|⟨zs,hz,hf,hs,e⟩ <;> rw[e] at h1 <;> cases h1);exact⟨i,fs,zs,hi,hu,hz,rfl,hs,rfl,rfl,hf⟩
 {rename_i i e hi hu;rcases gY Pg i e with e'|⟨_,_,j,zv,hj,hz,hs,hp,_,e'⟩ <;> rw[e'] at h1 <;> cases h1};{rename_i i len e hi hu;rcases gZ Pg i len e with e|⟨zs,_,_,_,_,_,_,e⟩ <;> rw[e] at h1 <;> cases h1};{rename_i i d _ _ _ hi hu;rcases cM i d with e|⟨zs,_,_,_,e,_⟩ <;> rw[e] at h1 <;> cases h1};{cases h1}
theorem sY {t len n:Nat}{ag:Bool}{z:List PV}(h:ty t=.arr len n ag z):∃ i e zs,Pg.info? t=some i/\Pg.underlying t=some (.array len e)/\i.zero=some (.agg zs)/\i.size=len*n/\zs.size=len*n/\Pg.cellsOf e=n/\qJ Pg e=ag/\1<len/\0<n/\(Pg.underlying e).isSome=true/\z=zs.toList.map wA:=by
 have h1:=zE2 h (by simp);unfold uR at h1;split at h1;{rename_i i fs hi hu;rcases gX Pg i fs with e|⟨zs,_,_,_,e⟩ <;> rw[e] at h1 <;> cases h1};{rename_i i e hi hu;rcases gY Pg i e with e'|⟨_,_,j,zv,hj,hz,hs,hp,_,e'⟩ <;> rw[e'] at h1 <;> cases h1}
 ·(rename_i i len e hi hu;rcases gZ Pg i len e with e'|⟨zs,hz,h2,h3,h4,h5,h6,e'⟩ <;> rw[e'] at h1 <;> cases h1);exact⟨i,e,zs,hi,hu,hz,h3,h2.trans h3,rfl,rfl,h4,h5,h6,rfl⟩
 {rename_i i d _ _ _ hi hu;rcases cM i d with e|⟨zs,_,_,_,e,_⟩ <;> rw[e] at h1 <;> cases h1};{cases h1}
theorem o6 {t:Nat}{z:PV}(h:ty t=.sc z):∃ i d zv,Pg.info? t=some i/\Pg.underlying t=some d/\i.size=1/\i.zero=some zv/\qJ Pg t=false/\zv.cells=#[zv]/\z=wA zv/\(∀ k x,z=.int k x->d=.int k)/\(z=.ff->d=.bool):=by
 have h1:=zE2 h (by simp);unfold uR at h1;split at h1;{rename_i i fs hi hu;rcases gX Pg i fs with e|⟨zs,_,_,_,e⟩ <;> rw[e] at h1 <;> cases h1};{rename_i i e hi hu;rcases gY Pg i e with e'|⟨_,_,j,zv,hj,hz,hs,hp,_,e'⟩ <;> rw[e'] at h1 <;> cases h1};{rename_i i len e hi hu;rcases gZ Pg i len e with e|⟨zs,_,_,_,_,_,_,e⟩ <;> rw[e] at h1 <;> cases h1}
 ·(rename_i i d _ _ _ hi hu;rcases cM i d with e|⟨zv,hz,hs,hc,e,hk,hb,hd⟩ <;> rw[e] at h1 <;> cases h1);exact⟨i,d,zv,hi,hu,hs,hz,by unfold qJ;rw[hu];cases d <;> first|rfl|exact hd.elim,hc,rfl,hk,hb⟩
 {cases h1}
theorem zIL (i:TypeInfo)(d:TypeDesc)(h:tySc i d=.sc .nilp):∃ e,d=.pointer e:=by unfold tySc at h;split at h;{split at h;{split at h;{split at h <;> cases h};{cases h};{cases h};{exact⟨_,rfl⟩};{cases h};{cases h}};{cases h}};{cases h}
theorem zND {t:Nat}(h:ty t=.sc .nilp):∃ e,Pg.underlying t=some (.pointer e):=by have h1:=zE2 h (by simp);unfold uR at h1;split at h1;{rename_i i fs hi hu;rcases gX Pg i fs with e|⟨zs,_,_,_,e⟩ <;> rw[e] at h1 <;> cases h1};{rename_i i e hi hu;rcases gY Pg i e with e'|⟨_,_,j,zv,hj,hz,hs,hp,_,e'⟩ <;> rw[e'] at h1 <;> cases h1};{rename_i i len e hi hu;rcases gZ Pg i len e with e|⟨zs,_,_,_,_,_,_,e⟩ <;> rw[e] at h1 <;> cases h1};{rename_i i d _ _ _ hi hu;obtain⟨e,rfl⟩:=zIL i d h1;exact⟨e,hu⟩};{cases h1}
section inv
variable {w:World} {S:Nat->Nat->Prop} {β:Bm} {v:Value}
theorem xX {k n}(h:Rep w S β v (.int k n)):v=.int k (n ()):=by cases h with|c hf h=>cases h;rfl
theorem mD (h:Rep w S β v .tt):v=.bool true:=by cases h with|c hf h=>cases h;rfl
theorem mE (h:Rep w S β v .ff):v=.bool false:=by cases h with|c hf h=>cases h;rfl
theorem fM {b}(h:Rep w S β v (.bool b)):v=.bool (b ()):=by cases h with|c hf h=>generalize hd:toD (.bool b)=d at h;cases h <;> simp[toD] at hd;subst hd;rfl
theorem gO {b}(h:Rep w S β v (.nbool b)):v=.bool (!(b ())):=by cases h with|c hf h=>generalize hd:toD (.nbool b)=d at h;cases h <;> simp[toD] at hd;simp[hd]
theorem nZ {b}(h:Rep w S β v (.str b)):v=.string (b ()):=by cases h with|c hf h=>generalize hd:toD (.str b)=d at h;cases h <;> simp[toD] at hd;subst hd;rfl
theorem pF (h:Rep w S β v .emp):∃ a,v=.slice a 0 0:=by cases h with|c hf h=>cases hf|emp a=>exact⟨a,rfl⟩
theorem iE {x:PV}(hx:kM x=true)(h:Rep w S β v x):(∃ a,v=.slice a 0 0)/\∀ {w':World} {S':Nat->Nat->Prop},Rep w' S' β v x:=by
 cases x with
 |nil=>cases h with|c hf h=>cases hf|nil=>exact⟨⟨_,rfl⟩,.nil⟩
 |emp=>cases h with|c hf h=>cases hf|emp a=>exact⟨⟨_,rfl⟩,.emp a⟩
 |_=>cases hx
theorem kC (h:Rep w S β v .nil):v=.slice none 0 0:=by cases h with|c hf h=>cases hf|nil=>rfl
theorem v5 {cs}(h:Rep w S β v (.agg cs)):∃ vs:Array Value,v=.agg vs/\vs.size=cs.length/\∀ j,j<cs.length->Rep w S β (vs.getD j undef) (cs.getD j .any):=by cases h with|c hf h=>cases hf|agg hl h=>exact⟨_,rfl,hl,h⟩
theorem k8 {cs}(h:Rep w S β v (.tup cs)):∃ vs:Array Value,v=.tuple vs/\vs.size=cs.length/\∀ j,j<cs.length->Rep w S β (vs.getD j undef) (cs.getD j .any):=by cases h with|c hf h=>cases hf|tup hl h=>exact⟨_,rfl,hl,h⟩
theorem k9 {f cs}(h:Rep w S β v (.fn f cs)):∃ vs:Array Value,v=.func (.func f) #[] vs/\vs.size=cs.length/\∀ j,j<cs.length->Rep w S β (vs.getD j undef) (cs.getD j .any):=by cases h with|c hf h=>cases hf|fn hl h=>exact⟨_,rfl,hl,h⟩
theorem uM {n o}(h:Rep w S β v (.ptr n o)):∃ b,β n=some b/\v=.pointer (some ⟨b,o,none⟩):=by cases h with|c hf h=>cases hf|ptr hβ=>exact⟨_,hβ,rfl⟩
theorem qR {n s i o}(h:Rep w S β v (.aptr n s i o)):∃ b,β n=some b/\v=.pointer (some ⟨b,i ()*s+o,none⟩):=by cases h with|c hf h=>cases hf|aptr hβ=>exact⟨_,hβ,rfl⟩
theorem fL {cs o}(h:Rep w S β v (.dptr cs o)):∃ (b o':Nat) (vals:Nat->Value),(∀ j,j<cs.length->S b (o'+j))/\v=.pointer (some ⟨b,o'+o,none⟩)/\yP kZ cs=true /\ (∀ j,j<cs.length->w.cell? ⟨b,o'+j,none⟩=some (vals j))/\∀ j,j<cs.length->RepD w S (vals j) (toD (cs.getD j .any)):=by cases h with|c hf h=>cases hf|dptr vals hS hf hc hr=>exact⟨_,_,vals,hS,rfl,hf,hc,hr⟩
theorem vC {n s o len}(h:Rep w S β v (.osl n s o len)):(β n=none/\o ()=0/\len ()=0/\∃ a,v=.slice a 0 0) \/ ∃ b cap vs T,β n=some b/\len ()<=cap/\w.heap[b]?=some (.cells vs T (0,0))/\(o ()+cap)*s<=vs.size/\v=.slice (some ⟨b,o ()*s,none⟩) (len ()) cap:=by
 cases h with
 |c hf h=>cases hf
 |osl hβ hlc hb hsz=>exact .inr ⟨_,_,_,_,hβ,hlc,hb,hsz,rfl⟩| osl0 hβ ho hl=>exact .inl ⟨hβ,ho,hl,_,rfl⟩
theorem kD {els}(h:RepD w S v (.sl els)):(els=[]/\∃ a cap,v=.slice a 0 cap) \/ ∃ (b o cap s:Nat) (vals:Nat->Nat->Value),els≠[]/\els.length<=cap/\(∀ i j,i<els.length->j<s->S b (o+i*s+j))/\(∀ e,e∈els->e.length=s) /\ (∀ i j,i<els.length->j<s->w.cell? ⟨b,o+i*s+j,none⟩=some (vals i j)) /\ (∀ i j,i<els.length->j<s->RepD w S (vals i j) ((els.getD i []).getD j .any))/\(∀ i j,i<els.length->j<s->(vals i j).oneCell'=true)/\v=.slice (some ⟨b,o,none⟩) els.length cap:=by
 cases h with
 |sl0 a cap=>exact .inl ⟨rfl,a,cap,rfl⟩| sl vals hne hcap hS hs hc h1 hr=>exact .inr ⟨_,_,_,_,vals,hne,hcap,hS,hs,hc,hr,h1,rfl⟩
theorem fI {els}(h:Rep w S β v (.sl els)):RepD w S v (.sl (els ())):=by cases h with|c hf h=>exact h
theorem iF {pv}(h:Rep w S β v pv)(hf:kZ pv=true):RepD w S v (toD pv):=by
 cases h with
 |c hf h=>exact h| _=>simp[kZ] at hf
theorem bT {pv}(h:Rep w S β v pv)(hf:s5 pv=true):RepD w S v (toD pv):=by
 cases pv with
 |nil=>rw[kC h];exact .sl0 _ _| _=>exact iF h (by simpa[s5] using hf)
theorem zAE (v:Value):Rep w S β v (wA v):=by unfold wA;split;{exact .c rfl (.int _ _)};{exact .c rfl (.bool true)};{exact .c rfl (.bool false)};{exact .c rfl (.str _)};{exact .nil};{exact .nilf};{exact .nilp};{exact .c rfl (.any _)}
theorem xM (v:Value):Rep w S β v .any:=.c rfl (.any v)
end inv
structure Cx where
 n:Nat
 b0:Bm
instance:Coe Cx Nat:=⟨Cx.n⟩
structure Sim (w0:World) (S0:Nat->Nat->Prop) (K0:Nat->Prop) (N:Cx) (τ:Nat->PV) (objs:List (Nat×Obj')) (a:Act) (w:World) (S:Nat->Nat->Prop) (β:Bm):Prop where
 dfr:a.defers=[]
 sz:a.tmps.size=N
 ld:Leads w0 S0 K0 w S
 tmp:∀ t,Rep w S β (a.tmps.getD t undef) (τ t)
 obj:ObjsAt w S β objs
 own:∀ n o b,(n,o)∈objs->Own β n o b->w0.heap.size<=b\/K0 b
 keep:∀ n o,(n,o)∈objs->1000000<=n->β n=N.b0 n
def upd (τ:Nat->PV) (d:Option Nat) (x:PV):Nat->PV :=
 match d with
 |none=>τ| some d=>fun t=>if t=d then x else τ t
theorem j5 (l:List (Nat×PV))(d:Nat)(x:PV)(t:Nat):zB (vD l d x) t=if t=d then x else zB l t:=by
 induction l with
 |nil =>
  by_cases h:t=d;{subst h;simp[vD,zB]};{have:nqb d t=false:=nbeq fun e=>h e.symm;simp[vD,zB,this,h]}
 |cons p r ih =>
  obtain⟨u,v⟩:=p;by_cases hu:u=d;{subst hu;by_cases h:t=u;{subst h;simp[vD,zB]};{have:nqb u t=false:=nbeq fun e=>h e.symm;simp[vD,zB,this,h]}};{have h1:nqb u d=false:=nbeq hu;by_cases h:u=t;{subst h;simp[vD,zB,h1,hu]};{have h2:nqb u t=false:=nbeq h;simp[vD,zB,h1,h2,ih]}}
theorem yZ (ps:PS)(d:Option Nat)(x:PV):zB (put ps d x).tmps=upd (zB ps.tmps) d x:=by
 cases d with
 |none=>rfl| some d=>funext t;simp[put,upd,j5]
theorem vS (ps:PS)(d:Option Nat)(x:PV):(put ps d x).objs=ps.objs:=by cases d <;> rfl
section sim
variable {w0:World} {S0:Nat->Nat->Prop} {K0:Nat->Prop} {N:Cx} {τ:Nat->PV} {objs:List (Nat×Obj')} {a:Act} {w:World} {S:Nat->Nat->Prop} {β:Bm}
theorem Sim.put (h:Sim w0 S0 K0 N τ objs a w S β)(d:Option Nat)(hd:∀ t,d=some t->t<N){v:Value}{x:PV}(hv:Rep w S β v x):Sim w0 S0 K0 N (upd τ d x) objs (a.put d v) w S β:=by
 cases d with
 |none=>exact h| some d =>
  have hN:=hd d rfl;refine⟨h.dfr,by simpa[Act.put] using h.sz,h.ld,fun t=>?_,h.obj,h.own,h.keep⟩;simp only[upd];by_cases ht:t=d
  ·(subst ht;have:t<a.tmps.size:=by rw[h.sz];exact hN);simpa[Act.put,this] using hv
  {rw[if_neg ht];have:=h.tmp t;simpa[Act.put,Array.getElem?_setIfInBounds_ne (Ne.symm ht)] using this}
theorem Sim.eval (h:Sim w0 S0 K0 N τ objs a w S β)(x:Operand):Rep w S β (a.eval x) (ev τ x):=by
 cases x with
 |tmp t=>exact h.tmp t| const v=>exact zAE v| global g=>exact xM _| func f=>exact .fn rfl (fun j hj=>by simp at hj)
theorem yW {l:List (Nat×Obj')}{n:Nat}{o:Obj'}(h:yA l n=some o):(n,o)∈l:=by
 induction l with
 |nil=>simp[yA] at h| cons p r ih =>
  obtain⟨u,v⟩:=p;simp only[yA] at h;cases hu:nqb u n with
  |true=>simp only[hu,cond_true,Option.some.injEq] at h;have:=yG hu;subst this h;exact List.mem_cons_self| false=>simp only[hu,cond_false] at h;exact List.mem_cons_of_mem _ (ih h)
end sim
theorem uQ {o:Oper}{a:Act}{w w':World}{v:Value}{Km:Act->World->Prop}{Q:Exit->Act->World->Prop} (h:(execOp a.eval o).run Pg w=.ok (.value v) w') (hk:Km (a.put o.dst v) w'):o.wp Pg a w Km Q:=by unfold Oper.wp;rw[h];exact hk
theorem lL {o:Oper}{a:Act}{w w':World}{Km:Act->World->Prop}{Q:Exit->Act->World->Prop} (h:(execOp a.eval o).run Pg w=.ok .skip w') (hk:Km (a.put o.dst undef) w'):o.wp Pg a w Km Q:=by unfold Oper.wp;rw[h];exact hk
theorem zCZ {t:TypeId}{i:TypeInfo}(h:Pg.info? t=some i)(w:World):(typeInfo t).run Pg w=.ok i w:=by simp[typeInfo,h]
theorem vB {t:TypeId}{i:TypeInfo}(h:Pg.info? t=some i)(w:World):(sizeOf t).run Pg w=.ok i.size w:=by simp[sizeOf,zCZ h]
theorem bQ {t:TypeId}{i:TypeInfo}{z:Value}(h:Pg.info? t=some i)(hz:i.zero=some z)(w:World):(zeroValue t).run Pg w=.ok z w:=by simp[zeroValue,zCZ h,hz]
theorem uJ {t:TypeId}(h:0<Pg.cellsOf t):∃ i,Pg.info? t=some i/\i.size=Pg.cellsOf t:=by
 unfold Program.cellsOf at *
 cases hi:Pg.info? t with
 |none=>simp[hi] at h| some i=>exact⟨i,rfl,by simp⟩
theorem aT {t:TypeId}{d:TypeDesc}(h:Pg.underlying t=some d)(w:World):(isAgg t).run Pg w=.ok (qJ Pg t) w:=by unfold isAgg qJ;simp only[Sem.run_bind,run_underlying h,Result.andThen_ok,h];cases d <;> rfl
theorem uF (b o n:Nat):(⟨b,o,none⟩:Addr).add n=⟨b,o+n,none⟩:=by unfold Addr.add;split;{rename_i h;subst h;rfl};{rfl}
theorem zBC {t:Nat}(h:(ty t).isNo=false):∃ i d,Pg.info? t=some i/\Pg.underlying t=some d/\i.size=(ty t).cells/\qJ Pg t=(ty t).isA:=by
 cases ht:ty t with
 |no=>simp[ht,Ty.isNo] at h| sc z=>obtain⟨i,d,zv,h1,h2,h3,_,h5,_⟩:=o6 ht;exact⟨i,d,h1,h2,h3,h5⟩
 |st n fs z=>obtain⟨i,fields,zs,h1,h2,_,h4,_⟩:=lP ht;exact⟨i,_,h1,h2,h4,by simp[qJ,h2,Ty.isA]⟩
 |arr len n ag z=>obtain⟨i,e,zs,h1,h2,_,h4,_⟩:=sY ht;exact⟨i,_,h1,h2,h4,by simp[qJ,h2,Ty.isA]⟩
 |sli n b z=>obtain⟨i,e,j,zv,h1,h2,_,h3,_⟩:=w7 ht;exact⟨i,_,h1,h3,h2,by simp[qJ,h3,Ty.isA]⟩
theorem zA2 {t:Nat}(h:(ty t).isNo=false)(ha:(ty t).isA=false):(ty t).cells=1:=by
 cases ht:ty t <;> simp[ht,Ty.isNo,Ty.isA,Ty.cells] at *
theorem zEI {t:Nat}(hno:(ty t).isNo=false){w:World}{b o:Nat}(vals:Nat->Value)(hc:∀ j,j<(ty t).cells->w.cell? ⟨b,o+j,none⟩=some (vals j)):(Instr.loadAt t (.pointer (some ⟨b,o,none⟩))).run Pg w=.ok (if (ty t).isA then .agg ((List.range (ty t).cells).map vals).toArray else vals 0) w:=by
 obtain⟨i,d,hi,hu,hs,ha⟩:=zBC hno;have hl:=run_loadCells (P:=Pg) w ⟨b,o,none⟩ (ty t).cells vals (fun j hj=>by rw[uF];exact hc j hj);cases hA:(ty t).isA with
 |true =>
  simp[Instr.loadAt,Instr.sureAddr,loadVar,aT hu,ha,hA,vB hi,hs,hl]
 |false =>
  have h1:=zA2 hno hA;have hc0:=hc 0 (by omega);simp only[Nat.add_zero] at hc0;simp[Instr.loadAt,Instr.sureAddr,loadVar,aT hu,ha,hA,hc0]
section
variable {w:World} {S:Nat->Nat->Prop} {β:Bm}
theorem eG (cs:List PV)(off n j:Nat)(hj:j<n)(hn:off+n<=cs.length):((cs.drop off).take n).getD j .any=cs.getD (off+j) .any:=by simp only[List.getD_eq_getElem?_getD];rw[List.getElem?_take_of_lt hj,List.getElem?_drop]
theorem dZ {t:Nat}{cs:List PV}{off:Nat}{K:PV->Prop}(h:rdK (ty t) cs off K){b o:Nat}(vals:Nat->Value) (hc:∀ j,j<cs.length->w.cell? ⟨b,o+j,none⟩=some (vals j)) (hr:∀ j,j<cs.length->Rep w S β (vals j) (cs.getD j .any)):∃ pv val,K pv/\(Instr.loadAt t (.pointer (some ⟨b,o+off,none⟩))).run Pg w=.ok val w/\Rep w S β val pv:=by
 unfold rdK at h;cases hno:(ty t).isNo with
 |true=>simp[hno] at h| false =>
  simp only[hno,cond_false] at h;cases hle:nle (off+(ty t).cells) cs.length with
  |false=>simp[hle] at h| true =>
   simp only[hle,cond_true] at h;have hle:=b7 hle;refine⟨_,_,h,zEI hno (fun j=>vals (off+j)) (fun j hj=>by rw[Nat.add_assoc];exact hc _ (by omega)),?_⟩;cases hA:(ty t).isA with
   |true =>
    (simp only[cond_true,if_true];refine .agg (by simp;omega) fun j hj=>?_;have hj':j<(ty t).cells:=by simp at hj;omega);rw[eG _ _ _ _ hj' hle]
    simpa[hj'] using hr (off+j) (by omega)
   |false =>
    have h1:=zA2 hno hA;simpa using hr off (by omega)
theorem zA5 {cs:List PV}{vals:Nat->Value}(hf:yP kZ cs=true)(hr:∀ j,j<cs.length->RepD w S (vals j) (toD (cs.getD j .any)))(j:Nat)(hj:j<cs.length):Rep w S β (vals j) (cs.getD j .any):=.c (y7 rfl hf j) (hr j hj)
theorem u9:∀ (c:List PV) (j:Nat),(xL c).getD j .any=toD (c.getD j .any)
 |[],j=>by simp[xL,toD]| x::c,0=>by simp[xL]| x::c,j+1=>by simpa[xL] using u9 c j
theorem vX:∀ (c:List PV),(xL c).length=c.length
 |[]=>rfl| x::c=>by simp[xL,vX c]
end
section
variable {w:World} {S:Nat->Nat->Prop} {β:Bm} {K:PV->Prop}
theorem mZ {v:Value}{x:PV}{A B:Unit->Prop}(hr:Rep w S β v x)(h:brV x A B):∃ b,v=.bool b/\(b=true->A ())/\(b=false->B ()):=by unfold brV at h;split at h;{exact⟨true,mD hr,fun _=>h,fun e=>by cases e⟩};{exact⟨false,mE hr,fun e=>(by cases e),fun _=>h⟩};{exact⟨_,fM hr,fun e=>h.t e,fun e=>h.f e⟩};{exact⟨_,gO hr,fun e=>h.f (by simpa using e),fun e=>h.t (by simpa using e)⟩};{exact h.elim}
theorem bbeq (a b:Bool):(a == b)=decide (a=b):=by cases a <;> cases b <;> rfl
theorem ibeq (a b:Int):(a == b)=decide (a=b):=by rw[Bool.eq_iff_iff];simp
theorem in64 {z:Unit->Int}(h:InI64 z):IntKind.i64.wrap (z ())=z ():=IntWalk.i64_in _ ⟨h.lo,h.hi⟩
theorem fJ (k:IntKind)(n:Unit->Int):Rep w S β (.int k (n ())) (.int k n):=.c rfl (.int _ _)
theorem dX (b:Unit->Bool):Rep w S β (.bool (b ())) (.bool b):=.c rfl (.bool _)
theorem bU (b:Unit->Bool):Rep w S β (.bool (!(b ()))) (.nbool b):=.c rfl (.bool _)
theorem sG {k:IntKind}{z:Unit->Int}(h:arK k z K):∃ pv,K pv/\Rep w S β (.int k (k.wrap (z ()))) pv:=by unfold arK at h;split at h;{exact⟨_,h.2,by rw[in64 h.1];exact fJ _ _⟩};{exact⟨_,h,by have:=fJ (w:=w) (S:=S) (β:=β) k (fun _=>nx k (z ()));unfold nx at this ⊢;exact this⟩}
theorem yV (op:BinOp)(t:TypeId)(x y:Operand)(v u:Value)(h:∀ cs,v≠.agg cs)(hn:v≠.nilIface):(eqGuard op t x y v u).run Pg w=.ok () w:=by
 unfold eqGuard;cases op <;> first
  |rfl
  |(cases v <;> first
   |(exact absurd rfl (h _))
   |(exact absurd rfl hn)
   |(cases u <;> rfl))
theorem zEQ {op:BinOp}{t:TypeId}{x y:Operand}{k k':IntKind}{a b:Unit->Int}(h:intK op k a k' b K):∃ pv val,K pv/\(binOp op t (.int k (a ())) (.int k' (b ()))).run Pg w=.ok val w/\Rep w S β val pv:=by
 unfold intK at h;split at h
 ·(refine⟨_,_,h.2,?_,fJ k (fun _=>ishl k (a ()) (b ()))⟩;have h0:¬b ()<0:=by have:=h.1.h;omega);simp[binOp,Op.shift,h0,ishl]
 ·(refine⟨_,_,h.2,?_,fJ k (fun _=>ishr k (a ()) (b ()))⟩;have h0:¬b ()<0:=by have:=h.1.h;omega);simp[binOp,Op.shift,h0,ishr]
 ·rename_i op h1 h2;cases hk:zIA k k' with
  |false=>simp[hk] at h| true =>
   (have hk':k=k':=by simpa[zIA] using hk);subst hk'
   simp only[hk,cond_true] at h;split at h;{obtain⟨pv,hp,hr⟩:=sG (w:=w) (S:=S) (β:=β) h;exact⟨pv,_,hp,by simp[binOp,Op.intArith],hr⟩};{obtain⟨pv,hp,hr⟩:=sG (w:=w) (S:=S) (β:=β) h;exact⟨pv,_,hp,by simp[binOp,Op.intArith],hr⟩};{obtain⟨pv,hp,hr⟩:=sG (w:=w) (S:=S) (β:=β) h;exact⟨pv,_,hp,by simp[binOp,Op.intArith],hr⟩};{refine⟨_,_,h.2,?_,fJ k (fun _=>nx k (iquo (a ()) (b ())))⟩;have h0:=h.1.h;simp[binOp,Op.intDiv,h0,nx,iquo]};{refine⟨_,_,h.2,?_,fJ k (fun _=>irem (a ()) (b ()))⟩;have h0:=h.1.h;simp[binOp,Op.intDiv,h0,irem]};{exact⟨_,_,h,by simp[binOp,Op.intBits,iand],fJ k (fun _=>iand k (a ()) (b ()))⟩};{exact⟨_,_,h,by simp[binOp,Op.intBits,ior],fJ k (fun _=>ior k (a ()) (b ()))⟩};{exact⟨_,_,h,by simp[binOp,Op.intCmp,ibeq],dX (fun _=>decide (a ()=b ()))⟩};{exact⟨_,_,h,by simp[binOp,Op.intCmp,bne,ibeq],bU (fun _=>decide (a ()=b ()))⟩};{exact⟨_,_,h,by simp[binOp,Op.intCmp],dX (fun _=>decide (a ()<b ()))⟩};{exact⟨_,_,h,by simp[binOp,Op.intCmp],dX (fun _=>decide (a ()<=b ()))⟩};{exact⟨_,_,h,by simp[binOp,Op.intCmp],dX (fun _=>decide (b ()<a ()))⟩};{exact⟨_,_,h,by simp[binOp,Op.intCmp],dX (fun _=>decide (b ()<=a ()))⟩};{exact h.elim}
theorem eC:∀ {cs:List PV} {l:List (Unit->Int)},mV cs=some l->∀ {vs:List Value},vs.length=cs.length->(∀ j,j<cs.length->Rep w S β (vs.getD j undef) (cs.getD j .any))->vs=(tE l).map (Value.int .i64):=by
 intro cs;induction cs with
 |nil=>intro l h vs hl _;simp[mV] at h;subst h;cases vs with
  |nil=>rfl| cons v vs=>simp at hl
 |cons c cs ih =>
  intro l h vs hl hr;unfold mV at h;split at h
  ·simp at *
  ·rename_i n r heq;cases heq;split at h
   ·rename_i l' hl';simp only[Option.some.injEq] at h;subst h;cases vs with
    |nil=>simp at hl| cons v vs =>
     have h0:=xX (by simpa using hr 0 (by simp));have:=ih hl' (vs:=vs) (by simpa using hl) (fun j hj=>by simpa using hr (j+1) (by simp;omega));simp[tE,h0,this]
   {simp at h}
  {simp at h}
theorem bC {v:Value}{x:PV}{b:Unit->Bool}(h:bval x=some b)(hr:Rep w S β v x):v=.bool (b ()):=by unfold bval at h;split at h;{cases h;exact mD hr};{cases h;exact mE hr};{cases h;exact fM hr};{cases h}
theorem zA8 {t n b:Nat}{z:List PV}{x:Operand}{els:Unit->List (List D)}{v:Value}(hty:ty t=.sli n b z)(hx:Rep w S β v (.sl els))(h:NilCmp els K):∃ pv val,K pv/\((do eqGuard .eql t x (.const (.slice none 0 0)) v (.slice none 0 0);binOp .eql t v (.slice none 0 0):Sem Value)).run Pg w=.ok val w/\Rep w S β val pv:=by
 obtain⟨inf,el,j,zv,h1,h2,h3,h4,_⟩:=w7 hty;have hsl:=fI hx;obtain⟨ax,cap,hx'⟩:∃ ax cap,v=.slice ax (els ()).length cap:=by rcases kD hsl with⟨e0,aa,cap,hv⟩|⟨bb,oo,cap,s,vals,_,_,_,_,_,_,_,hv⟩;{exact⟨aa,cap,by rw[hv,e0];rfl⟩};{exact⟨_,cap,hv⟩}
 have hcap0:ax=none->els ()=[]:=by intro e;subst e;rcases kD hsl with⟨e0,aa,cap,hv⟩|⟨bb,oo,cap,s,vals,_,_,_,_,_,_,_,hv⟩;{exact e0};{rw[hx'] at hv;cases hv}
 subst hx';refine⟨_,_,h.h ax.isNone (fun e=>hcap0 (by simpa using e)),?_,dX (fun _=>ax.isNone)⟩;rw[Sem.run_bind,yV _ _ _ _ _ _ (by intro cs e;cases e) (by intro e;cases e),Result.andThen_ok];simp only[binOp];simp[Op.equal,Op.maxDepth,Lib.run_equalIn_slice_nil w 9999 t el ax (els ()).length cap 0 0 h4]
theorem zA7 {t n b:Nat}{z:List PV}{x:Operand}{m s:Nat}{o len:Unit->Nat}{v:Value}(hty:ty t=.sli n b z)(hx:Rep w S β v (.osl m s o len))(h:NilLen len K):∃ pv val,K pv/\((do eqGuard .eql t x (.const (.slice none 0 0)) v (.slice none 0 0);binOp .eql t v (.slice none 0 0):Sem Value)).run Pg w=.ok val w/\Rep w S β val pv:=by
 obtain⟨inf,el,j,zv,h1,h2,h3,h4,_⟩:=w7 hty;obtain⟨ax,ln,cap,hx',hcap0⟩:∃ ax ln cap,v=.slice ax ln cap/\(ax=none->len ()=0):=by rcases vC hx with⟨_,_,e0,aa,hv⟩|⟨bb,cap,vs,T,_,_,_,_,hv⟩;{exact⟨aa,0,0,hv,fun _=>e0⟩};{exact⟨_,_,cap,hv,fun e=>by cases e⟩}
 subst hx';refine⟨_,_,h.h ax.isNone (fun e=>hcap0 (by simpa using e)),?_,dX (fun _=>ax.isNone)⟩;rw[Sem.run_bind,yV _ _ _ _ _ _ (by intro cs e;cases e) (by intro e;cases e),Result.andThen_ok];simp only[binOp];simp[Op.equal,Op.maxDepth,Lib.run_equalIn_slice_nil w 9999 t el ax ln cap 0 0 h4]
theorem zEN {t n b:Nat}{z:List PV}{x:Operand}(hty:ty t=.sli n b z):((do eqGuard .eql t x (.const (.slice none 0 0)) (.slice none 0 0) (.slice none 0 0);binOp .eql t (.slice none 0 0) (.slice none 0 0):Sem Value)).run Pg w=.ok (.bool true) w:=by obtain⟨inf,el,j,zv,h1,h2,h3,h4,_⟩:=w7 hty;rw[Sem.run_bind,yV _ _ _ _ _ _ (by intro cs e;cases e) (by intro e;cases e),Result.andThen_ok];simp only[binOp];simp[Op.equal,Op.maxDepth,Lib.run_equalIn_slice_nil w 9999 t el none 0 0 0 0 h4]
theorem zB5 {t n b:Nat}{z:List PV}{x:Operand}(hty:ty t=.sli n b z):((do eqGuard .neq t x (.const (.slice none 0 0)) (.slice none 0 0) (.slice none 0 0);binOp .neq t (.slice none 0 0) (.slice none 0 0):Sem Value)).run Pg w=.ok (.bool false) w:=by obtain⟨inf,el,j,zv,h1,h2,h3,h4,_⟩:=w7 hty;rw[Sem.run_bind,yV _ _ _ _ _ _ (by intro cs e;cases e) (by intro e;cases e),Result.andThen_ok];simp only[binOp];simp[Op.equal,Op.maxDepth,Lib.run_equalIn_slice_nil w 9999 t el none 0 0 0 0 h4]
theorem oS {t n b:Nat}{z:List PV}{x:Operand}{els:Unit->List (List D)}{v:Value}(hty:ty t=.sli n b z)(hx:Rep w S β v (.sl els))(h:NilCmp els (fun v=>K (notV v))):∃ pv val,K pv/\((do eqGuard .neq t x (.const (.slice none 0 0)) v (.slice none 0 0);binOp .neq t v (.slice none 0 0):Sem Value)).run Pg w=.ok val w/\Rep w S β val pv:=by
 obtain⟨inf,el,j,zv,h1,h2,h3,h4,_⟩:=w7 hty;have hsl:=fI hx;obtain⟨ax,cap,hx'⟩:∃ ax cap,v=.slice ax (els ()).length cap:=by rcases kD hsl with⟨e0,aa,cap,hv⟩|⟨bb,oo,cap,s,vals,_,_,_,_,_,_,_,hv⟩;{exact⟨aa,cap,by rw[hv,e0];rfl⟩};{exact⟨_,cap,hv⟩}
 have hcap0:ax=none->els ()=[]:=by intro e;subst e;rcases kD hsl with⟨e0,aa,cap,hv⟩|⟨bb,oo,cap,s,vals,_,_,_,_,_,_,_,hv⟩;{exact e0};{rw[hx'] at hv;cases hv}
 subst hx';refine⟨_,_,h.h ax.isNone (fun e=>hcap0 (by simpa using e)),?_,bU (fun _=>ax.isNone)⟩;rw[Sem.run_bind,yV _ _ _ _ _ _ (by intro cs e;cases e) (by intro e;cases e),Result.andThen_ok];simp only[binOp];simp[Op.equal,Op.maxDepth,Lib.run_equalIn_slice_nil w 9999 t el ax (els ()).length cap 0 0 h4]
theorem oR {t n b:Nat}{z:List PV}{x:Operand}{m s:Nat}{o len:Unit->Nat}{v:Value}(hty:ty t=.sli n b z)(hx:Rep w S β v (.osl m s o len))(h:NilLen len (fun v=>K (notV v))):∃ pv val,K pv/\((do eqGuard .neq t x (.const (.slice none 0 0)) v (.slice none 0 0);binOp .neq t v (.slice none 0 0):Sem Value)).run Pg w=.ok val w/\Rep w S β val pv:=by
 obtain⟨inf,el,j,zv,h1,h2,h3,h4,_⟩:=w7 hty;obtain⟨ax,ln,cap,hx',hcap0⟩:∃ ax ln cap,v=.slice ax ln cap/\(ax=none->len ()=0):=by rcases vC hx with⟨_,_,e0,aa,hv⟩|⟨bb,cap,vs,T,_,_,_,_,hv⟩;{exact⟨aa,0,0,hv,fun _=>e0⟩};{exact⟨_,_,cap,hv,fun e=>by cases e⟩}
 subst hx';refine⟨_,_,h.h ax.isNone (fun e=>hcap0 (by simpa using e)),?_,bU (fun _=>ax.isNone)⟩;rw[Sem.run_bind,yV _ _ _ _ _ _ (by intro cs e;cases e) (by intro e;cases e),Result.andThen_ok];simp only[binOp];simp[Op.equal,Op.maxDepth,Lib.run_equalIn_slice_nil w 9999 t el ax ln cap 0 0 h4]
theorem zEB {op:BinOp}{t:TypeId}{a b:Unit->ByteArray}(h:strK op a b K):∃ pv val,K pv/\(binOp op t (.string (a ())) (.string (b ()))).run Pg w=.ok val w/\Rep w S β val pv:=by
 unfold strK at h;split at h
 ·refine⟨_,.string (a ()++b ()),h.2,?_,.c rfl (.str _)⟩;have h0:¬((((a ()).size+(b ()).size:Nat):Int) > IntKind.i64.max):=by
   (have:=h.1.h;have e:IntKind.i64.max=9223372036854775807:=by decide);rw[e];omega
  simp only[binOp,Op.stringOp];rw[if_neg h0];simp[Sem.run_pure]
 {exact⟨_,_,h,by simp[binOp,Op.stringOp,Sem.run_pure],dX (fun _=>(a ()).toList == (b ()).toList)⟩};{exact⟨_,_,h,by simp[binOp,Op.stringOp,Sem.run_pure],bU (fun _=>(a ()).toList == (b ()).toList)⟩};{exact h.elim}
theorem zEX {v:Value}{ns:List Int}{els:List (List D)}(he:els=ns.map fun n=>[D.int .u8 n])(h:RepD w S v (.sl els)):∃ a len cap,v=.slice a len cap/\(Conv.bytesToString (.slice a len cap)).run Pg w=.ok (.string (lI ns)) w:=by
 rcases kD h with⟨e0,a,cap,hv⟩|⟨b,o,cap,s,vals,hne,hcap,hS,hs,hc,hr,h1,hv⟩
 ·(have hn:ns=[]:=by rw[e0] at he;exact List.map_eq_nil_iff.1 he.symm);subst hn;refine⟨a,0,cap,by rw[hv],?_⟩;cases a with
  |none=>simp[Conv.bytesToString,Sem.run_pure,lI]| some a=>exact run_bytesToString w a 0 cap [] (by simp[loadCells,loadCellsFrom,Sem.run_pure])
 ·(refine⟨some ⟨b,o,none⟩,els.length,cap,hv,run_bytesToString w ⟨b,o,none⟩ els.length cap ns ?_⟩;have hl:els.length=ns.length:=by rw[he,List.length_map]);have hs1:s=1:=by
   cases hels:els with
   |nil=>exact absurd hels hne| cons e r =>
    (have:=hs e (by rw[hels];exact List.mem_cons_self);rw[<-this];have hm:e∈ns.map fun n=>[D.int .u8 n]:=by rw[<-he,hels];exact List.mem_cons_self);obtain⟨n,_,rfl⟩:=List.mem_map.1 hm
    rfl
  subst hs1;have hl2:=run_loadCells (P:=Pg) w ⟨b,o,none⟩ els.length (fun j=>.int .u8 (ns.getD j 0)) (fun j hj=>by
   have g:=hc j 0 hj (by omega);have r:=hr j 0 hj (by omega);have e:els.getD j []=[D.int .u8 (ns.getD j 0)]:=by
    (rw[he];have hj':j<ns.length:=by omega);simp[List.getD_eq_getElem?_getD,hj']
   (rw[e] at r;have r':RepD w S (vals j 0) (.int .u8 (ns.getD j 0)):=by simpa using r);cases hx:vals j 0 with
   |_=>rw[hx] at r' g;cases r' <;> (rw[uF];simpa using g))
  rw[hl2];congr 1;rw[hl];congr 1;refine List.ext_getElem (by simp) fun i h1 h2=>?_;simp at h1 h2;simp[List.getD_eq_getElem?_getD,h1]
theorem dW (w:World)(d:Nat)(t e:TypeId)(a b:Option Addr)(hu:Pg.underlying t=some (.pointer e))(h:(a.isNone || b.isNone)=true):(Op.equalIn (d+1) t (.pointer a) (.pointer b)).run Pg w=.ok (a.isNone&&b.isNone) w:=by cases a <;> cases b <;> simp at h <;> simp[Op.equalIn,run_underlying hu]
theorem gL {x:PV}{v:Value}{a:Bool}(h:zFL x=some a)(hx:Rep w S β v x):∃ p,v=.pointer p/\p.isNone=a:=by
 cases x with
 |nilp=>cases h;cases hx with|c hf h=>cases hf|nilp=>exact⟨none,rfl,rfl⟩
 |ptr n o=>cases h;obtain⟨b,_,rfl⟩:=uM hx;exact⟨_,rfl,rfl⟩
 |_=>cases h
theorem zEY {op:BinOp}{t:TypeId}{ox oy:Operand}{x y:PV}{v u:Value}(hoy:∀ c,oy=.const c->u=c)(hx:Rep w S β v x)(hy:Rep w S β u y)(h:binK op t ox oy x y K):∃ pv val,K pv/\((do eqGuard op t ox oy v u;binOp op t v u:Sem Value)).run Pg w=.ok val w/\Rep w S β val pv:=by
 unfold binK at h;split at h;{rename_i k a k' b;have e1:=xX hx;have e2:=xX hy;subst e1 e2;obtain⟨pv,val,h1,h2,h3⟩:=zEQ (w:=w) (S:=S) (β:=β) (t:=t) (x:=ox) (y:=oy) h;exact⟨pv,val,h1,by simp[yV,h2],h3⟩};{rename_i a b;have e1:=nZ hx;have e2:=nZ hy;subst e1 e2;obtain⟨pv,val,h1,h2,h3⟩:=zEB (w:=w) (S:=S) (β:=β) (t:=t) h;exact⟨pv,val,h1,by simp[yV,h2],h3⟩}
 ·rename_i l m;split at h
  ·(rename_i a b ha hb;obtain⟨vs,rfl,hl1,hr1⟩:=v5 hx;obtain⟨us,rfl,hl2,hr2⟩:=v5 hy;have e1:vs=((tE a).map (Value.int .i64)).toArray:=by have:=eC ha (vs:=vs.toList) (by simpa using hl1) (fun j hj=>by simpa using hr1 j hj);rw[<-this]);have e2:us=((tE b).map (Value.int .i64)).toArray:=by have:=eC hb (vs:=us.toList) (by simpa using hl2) (fun j hj=>by simpa using hr2 j hj);rw[<-this]
   obtain⟨r,h1,h2⟩:=h.h;refine⟨_,_,h2,?_,dX (fun _=>r)⟩;rw[e1,e2];exact h1 w
  {exact h.elim}
 ·split at h
  ·(rename_i hty;have hu:Pg.underlying t=some .bool:=by obtain⟨i,d,zv,h1,h2,h3,h4,h5,h6,h7,h8,h9⟩:=o6 hty;rw[h2,h9 rfl]);split at h
   {rename_i a b ha hb;have e1:=bC ha hx;have e2:=bC hb hy;subst e1 e2;refine⟨_,_,h,?_,dX (fun _=>decide (a ()=b ()))⟩;simp[yV,binOp,Op.equal,Op.maxDepth,run_equalIn_bool' w 9999 t _ _ hu,bbeq]};{rename_i a b ha hb;have e1:=bC ha hx;have e2:=bC hb hy;subst e1 e2;refine⟨_,_,h,?_,bU (fun _=>decide (a ()=b ()))⟩;simp[yV,binOp,Op.equal,Op.maxDepth,run_equalIn_bool' w 9999 t _ _ hu,bbeq]};{exact h.elim}
  ·rename_i hty;obtain⟨e,hu⟩:=zND hty;split at h
   ·rename_i a b ha hb;obtain⟨va,rfl,e1⟩:=gL ha hx;obtain⟨vb,rfl,e2⟩:=gL hb hy;cases hab:a || b with
    |false=>simp only[hab] at h| true =>
     simp only[hab] at h;refine⟨_,_,h,?_,dX (fun _=>a&&b)⟩;subst e1 e2;simp[yV,binOp,Op.equal,Op.maxDepth,dW w 9999 t e _ _ hu hab]
   ·rename_i a b ha hb;obtain⟨va,rfl,e1⟩:=gL ha hx;obtain⟨vb,rfl,e2⟩:=gL hb hy;cases hab:a || b with
    |false=>simp only[hab] at h| true =>
     simp only[hab] at h;refine⟨_,_,h,?_,bU (fun _=>a&&b)⟩;subst e1 e2;simp[yV,binOp,Op.equal,Op.maxDepth,dW w 9999 t e _ _ hu hab]
   {exact h.elim}
  {exact h.elim}
theorem eL {t n:Nat}{fs:List (Nat×Nat×Bool)}{z:List PV}(ht:ty t=.st n fs z){i off sz:Nat}{ag:Bool}(hi:fs[i]?=some (off,sz,ag)):∃ (fields:Array Field) (f:Field),Pg.underlying t=some (.struct fields)/\fields[i]?=some f/\f.offset=off/\Pg.cellsOf f.type=sz/\qJ Pg f.type=ag/\0<sz:=by
 obtain⟨inf,fields,zs,h1,h2,_,_,_,hfs,_,hpos⟩:=lP ht;rw[hfs] at hi;rw[List.getElem?_map] at hi;cases hf:fields.toList[i]? with
 |none=>simp[hf] at hi| some f =>
  simp only[hf,Option.map_some,Option.some.injEq,Prod.mk.injEq] at hi;obtain⟨h3,h4,h5⟩:=hi;refine⟨fields,f,h2,by simpa using hf,h3,h4,h5,?_⟩;rw[<-h4];exact hpos f (List.mem_of_getElem? hf)
theorem dH {t n:Nat}{fs:List (Nat×Nat×Bool)}{z:List PV}(ht:ty t=.st n fs z){i off sz:Nat}{ag:Bool}(hi:fs[i]?=some (off,sz,ag))(b o:Nat):(Instr.fieldAt t (.pointer (some ⟨b,o,none⟩)) i).run Pg w=.ok (.pointer (some ⟨b,o+off,none⟩)) w:=by
 obtain⟨fields,f,hu,hf,hoff,hsz,_,hp⟩:=eL ht hi;obtain⟨inf,h1,h2⟩:=uJ (t:=f.type) (by omega);have h3:inf.size≠0:=by omega
 simp[Instr.fieldAt,run_underlying hu,hf,Instr.sureAddr,fieldPlace,vB h1,h3,uF,hoff]
theorem dG {t e:Nat}{j:TypeInfo}(hu:Pg.underlying t=some (.slice e))(hj:Pg.info? e=some j)(b o len cap:Nat)(k:IntKind)(i:Int)(h0:0<=i)(h1:i<(len:Int)):(Instr.indexAt t (.slice (some ⟨b,o,none⟩) len cap) (.int k i)).run Pg w=.ok (.pointer (some ⟨b,o+i.toNat*j.size,none⟩)) w:=by simp[Instr.indexAt,asIntOf,run_underlying hu,h0,h1,vB hj,uF]
theorem pC {t e len:Nat}{j:TypeInfo}(hu:Pg.underlying t=some (.array len e))(hj:Pg.info? e=some j)(b o:Nat)(k:IntKind)(i:Int)(h0:0<=i)(h1:i<(len:Int)):(Instr.indexAt t (.pointer (some ⟨b,o,none⟩)) (.int k i)).run Pg w=.ok (.pointer (some ⟨b,o+i.toNat*j.size,none⟩)) w:=by simp[Instr.indexAt,asIntOf,run_underlying hu,h0,h1,vB hj,uF,Instr.sureAddr]
theorem nP {t e:Nat}(hu:Pg.underlying t=some (.slice e))(x:Value)(lo hi:Option Value):(Instr.sliceAt t x lo hi none).run Pg w=(Instr.slice t x lo hi none).run Pg w:=by simp[Instr.sliceAt,run_underlying hu]
end
end Go.Proofs.YtfainocfaddbdaaGreat
