/- A part of the proof: PmD, PmE, PmF. -/
import Derived.Test.YtfainocfaddbdaaGreatT04
import Derived.Laws.BytesString
set_option linter.all false
namespace Go.Proofs.YtfainocfaddbdaaGreat
open Go
theorem nbeq {m n:Nat}(h:m≠n):nqb m n=false:=by
 cases hb:nqb m n with
 |false=>rfl| true=>exact absurd (yC hb) h
theorem oK {t:Nat}{x:Ty}(h:ty t=x)(hx:x≠.no):uG Pg t=x:=by rcases zOJ t with h1|h1;{exact absurd (h1 ▸ h).symm hx};{exact h1.trans h}
theorem gN (P:Program)(i:TypeInfo)(fs:Array Field):tySt P i fs=.no\/∃ zs:Array Value,i.zero=some (.agg zs)/\(∀ f,f∈fs.toList->0<P.cellsOf f.type)/\zs.size=i.size /\ tySt P i fs=.st i.size (fs.toList.map fun f=>(f.offset,P.cellsOf f.type,u7 P f.type)) (zs.toList.map x8):=by unfold tySt;split;{rename_i zs hz;split;{rename_i h;exact .inr ⟨zs,hz,h.1,h.2.1,rfl⟩};{exact .inl rfl}};{exact .inl rfl}
theorem zH2 {P:Program}{i:TypeInfo}{fs:Array Field}{n:Nat}{ff:List (Nat×Nat×Bool)}{z:List PV}(h:tySt P i fs=.st n ff z):∀ f,f∈fs.toList->(P.underlying f.type).isSome=true:=by unfold tySt at h;split at h;{split at h;{rename_i h';exact h'.2.2};{cases h}};{cases h}
theorem jA (P:Program)(i:TypeInfo)(e:TypeId):tySl P i e=.no\/(i.size=1/\i.zero=some (.slice none 0 0)/\∃ j zv,P.info? e=some j/\j.zero=some zv/\zv.cells.size=j.size/\0<j.size/\0<j.bytes /\ tySl P i e=.sli j.size j.bytes (zv.cells.toList.map x8)):=by unfold tySl;split;{exact .inl rfl};{rename_i hs;split;{rename_i j hz0 hj;split;{rename_i zv hz;split;{rename_i h;exact .inr ⟨by omega,hz0,j,zv,hj,hz,h.1,h.2.1,h.2.2,rfl⟩};{exact .inl rfl}};{exact .inl rfl}};{exact .inl rfl}}
theorem jB (P:Program)(i:TypeInfo)(len:Nat)(e:TypeId):tyAr P i len e=.no\/∃ zs:Array Value,i.zero=some (.agg zs)/\zs.size=i.size/\i.size=len*P.cellsOf e/\1<len/\0<P.cellsOf e/\(P.underlying e).isSome=true /\ tyAr P i len e=.arr len (P.cellsOf e) (u7 P e) (zs.toList.map x8):=by unfold tyAr;split;{rename_i zs hz;split;{rename_i h;exact .inr ⟨zs,hz,h.1,h.2.1,h.2.2.1,h.2.2.2.1,h.2.2.2.2,rfl⟩};{exact .inl rfl}};{exact .inl rfl}
theorem gO (i:TypeInfo)(d:TypeDesc):tySc i d=.no\/∃ zv,i.zero=some zv/\i.size=1/\zv.cells=#[zv]/\tySc i d=.sc (x8 zv)/\(∀ k x,x8 zv=.int k x->d=.int k)/\(x8 zv=.ff->d=.bool) /\ (match d with|.struct _=>False|.array _ _=>False|_=>True):=by unfold tySc;split;{rename_i zv hz;split;{rename_i h;split;{rename_i k k' n;split;{rename_i hk;subst hk;exact .inr ⟨_,hz,h,rfl,rfl,fun k x hx=>by simp[x8] at hx;rw[hx.1],fun hx=>by simp[x8] at hx,trivial⟩};{exact .inl rfl}};{exact .inr ⟨_,hz,h,rfl,rfl,fun k x hx=>by simp[x8] at hx,fun _=>rfl,trivial⟩};{exact .inr ⟨_,hz,h,rfl,rfl,fun k x hx=>by simp[x8] at hx,fun hx=>by simp[x8] at hx,trivial⟩};{exact .inr ⟨_,hz,h,rfl,rfl,fun k x hx=>by simp[x8] at hx,fun hx=>by simp[x8] at hx,trivial⟩};{exact .inr ⟨_,hz,h,rfl,rfl,fun k x hx=>by simp[x8] at hx,fun hx=>by simp[x8] at hx,trivial⟩};{exact .inl rfl}};{exact .inl rfl}};{exact .inl rfl}
theorem w5 {t n b:Nat}{z:List PV}(h:ty t=.sli n b z):∃ i e j zv,Pg.info? t=some i/\i.size=1/\i.zero=some (.slice none 0 0)/\Pg.underlying t=some (.slice e)/\Pg.info? e=some j/\j.zero=some zv/\j.size=n/\j.bytes=b/\zv.cells.size=n/\0<n/\z=zv.cells.toList.map x8/\0<b:=by
 have h1:=oK h (by simp);unfold uG at h1;split at h1;{rename_i i fs hi hu;rcases gN Pg i fs with e|⟨zs,_,_,_,e⟩ <;> rw[e] at h1 <;> cases h1}
 ·(rename_i i e hi hu;rcases jA Pg i e with e'|⟨hi1,hi2,j,zv,hj,hz,hs,hp,hbp,e'⟩ <;> rw[e'] at h1 <;> cases h1);exact⟨i,e,j,zv,hi,hi1,hi2,hu,hj,hz,rfl,rfl,hs,hp,rfl,hbp⟩
 {rename_i i len e hi hu;rcases jB Pg i len e with e|⟨zs,_,_,_,_,_,_,e⟩ <;> rw[e] at h1 <;> cases h1};{rename_i i d _ _ _ hi hu;rcases gO i d with e|⟨zs,_,_,_,e,_⟩ <;> rw[e] at h1 <;> cases h1};{cases h1}
theorem n6 {t n:Nat}{fs:List (Nat×Nat×Bool)}{z:List PV}(h:ty t=.st n fs z):∃ i fields zs,Pg.info? t=some i/\Pg.underlying t=some (.struct fields)/\i.zero=some (.agg zs)/\i.size=n/\zs.size=n /\ fs=fields.toList.map (fun f=>(f.offset,Pg.cellsOf f.type,u7 Pg f.type))/\z=zs.toList.map x8/\∀ f,f∈fields.toList->0<Pg.cellsOf f.type:=by
 have h1:=oK h (by simp);unfold uG at h1;split at h1
 ·(rename_i i fs hi hu;rcases gN Pg i fs with e|⟨zs,hz,hf,hs,e⟩ <;> rw[e] at h1 <;> cases h1);exact⟨i,fs,zs,hi,hu,hz,rfl,hs,rfl,rfl,hf⟩
 {rename_i i e hi hu;rcases jA Pg i e with e'|⟨_,_,j,zv,hj,hz,hs,hp,_,e'⟩ <;> rw[e'] at h1 <;> cases h1};{rename_i i len e hi hu;rcases jB Pg i len e with e|⟨zs,_,_,_,_,_,_,e⟩ <;> rw[e] at h1 <;> cases h1};{rename_i i d _ _ _ hi hu;rcases gO i d with e|⟨zs,_,_,_,e,_⟩ <;> rw[e] at h1 <;> cases h1};{cases h1}
theorem zML {t n:Nat}{fs:List (Nat×Nat×Bool)}{z:List PV}(h:ty t=.st n fs z):∃ fields,Pg.underlying t=some (.struct fields)/\∀ f,f∈fields.toList->(Pg.underlying f.type).isSome=true:=by have h1:=oK h (by simp);unfold uG at h1;split at h1;{rename_i i fs hi hu;exact⟨fs,hu,zH2 h1⟩};{rename_i i e hi hu;rcases jA Pg i e with e'|⟨_,_,j,zv,hj,hz,hs,hp,_,e'⟩ <;> rw[e'] at h1 <;> cases h1};{rename_i i len e hi hu;rcases jB Pg i len e with e|⟨zs,_,_,_,_,_,_,e⟩ <;> rw[e] at h1 <;> cases h1};{rename_i i d _ _ _ hi hu;rcases gO i d with e|⟨zs,_,_,_,e,_⟩ <;> rw[e] at h1 <;> cases h1};{cases h1}
theorem sH {t len n:Nat}{ag:Bool}{z:List PV}(h:ty t=.arr len n ag z):∃ i e zs,Pg.info? t=some i/\Pg.underlying t=some (.array len e)/\i.zero=some (.agg zs)/\i.size=len*n/\zs.size=len*n/\Pg.cellsOf e=n/\u7 Pg e=ag/\1<len/\0<n/\(Pg.underlying e).isSome=true/\z=zs.toList.map x8:=by
 have h1:=oK h (by simp);unfold uG at h1;split at h1;{rename_i i fs hi hu;rcases gN Pg i fs with e|⟨zs,_,_,_,e⟩ <;> rw[e] at h1 <;> cases h1};{rename_i i e hi hu;rcases jA Pg i e with e'|⟨_,_,j,zv,hj,hz,hs,hp,_,e'⟩ <;> rw[e'] at h1 <;> cases h1}
 ·(rename_i i len e hi hu;rcases jB Pg i len e with e'|⟨zs,hz,h2,h3,h4,h5,h6,e'⟩ <;> rw[e'] at h1 <;> cases h1);exact⟨i,e,zs,hi,hu,hz,h3,h2.trans h3,rfl,rfl,h4,h5,h6,rfl⟩
 {rename_i i d _ _ _ hi hu;rcases gO i d with e|⟨zs,_,_,_,e,_⟩ <;> rw[e] at h1 <;> cases h1};{cases h1}
theorem oJ {t:Nat}{z:PV}(h:ty t=.sc z):∃ i d zv,Pg.info? t=some i/\Pg.underlying t=some d/\i.size=1/\i.zero=some zv/\u7 Pg t=false/\zv.cells=#[zv]/\z=x8 zv/\(∀ k x,z=.int k x->d=.int k)/\(z=.ff->d=.bool):=by
 have h1:=oK h (by simp);unfold uG at h1;split at h1;{rename_i i fs hi hu;rcases gN Pg i fs with e|⟨zs,_,_,_,e⟩ <;> rw[e] at h1 <;> cases h1};{rename_i i e hi hu;rcases jA Pg i e with e'|⟨_,_,j,zv,hj,hz,hs,hp,_,e'⟩ <;> rw[e'] at h1 <;> cases h1};{rename_i i len e hi hu;rcases jB Pg i len e with e|⟨zs,_,_,_,_,_,_,e⟩ <;> rw[e] at h1 <;> cases h1}
 ·(rename_i i d _ _ _ hi hu;rcases gO i d with e|⟨zv,hz,hs,hc,e,hk,hb,hd⟩ <;> rw[e] at h1 <;> cases h1);exact⟨i,d,zv,hi,hu,hs,hz,by unfold u7;rw[hu];cases d <;> first|rfl|exact hd.elim,hc,rfl,hk,hb⟩
 {cases h1}
theorem zH3 (i:TypeInfo)(d:TypeDesc)(h:tySc i d=.sc .nilp):∃ e,d=.pointer e:=by unfold tySc at h;split at h;{split at h;{split at h;{split at h <;> cases h};{cases h};{cases h};{exact⟨_,rfl⟩};{cases h};{cases h}};{cases h}};{cases h}
theorem zMM {t:Nat}(h:ty t=.sc .nilp):∃ e,Pg.underlying t=some (.pointer e):=by have h1:=oK h (by simp);unfold uG at h1;split at h1;{rename_i i fs hi hu;rcases gN Pg i fs with e|⟨zs,_,_,_,e⟩ <;> rw[e] at h1 <;> cases h1};{rename_i i e hi hu;rcases jA Pg i e with e'|⟨_,_,j,zv,hj,hz,hs,hp,_,e'⟩ <;> rw[e'] at h1 <;> cases h1};{rename_i i len e hi hu;rcases jB Pg i len e with e|⟨zs,_,_,_,_,_,_,e⟩ <;> rw[e] at h1 <;> cases h1};{rename_i i d _ _ _ hi hu;obtain⟨e,rfl⟩:=zH3 i d h1;exact⟨e,hu⟩};{cases h1}
section inv
variable {w:World} {S:Nat->Nat->Prop} {β:Bm} {v:Value}
theorem xV {k n}(h:Rep w S β v (.int k n)):v=.int k (n ()):=by cases h with|c hf h=>cases h;rfl
theorem tM (h:Rep w S β v .tt):v=.bool true:=by cases h with|c hf h=>cases h;rfl
theorem tN (h:Rep w S β v .ff):v=.bool false:=by cases h with|c hf h=>cases h;rfl
theorem gZ {b}(h:Rep w S β v (.bool b)):v=.bool (b ()):=by cases h with|c hf h=>generalize hd:toD (.bool b)=d at h;cases h <;> simp[toD] at hd;subst hd;rfl
theorem gF {b}(h:Rep w S β v (.nbool b)):v=.bool (!(b ())):=by cases h with|c hf h=>generalize hd:toD (.nbool b)=d at h;cases h <;> simp[toD] at hd;simp[hd]
theorem nH {b}(h:Rep w S β v (.str b)):v=.string (b ()):=by cases h with|c hf h=>generalize hd:toD (.str b)=d at h;cases h <;> simp[toD] at hd;subst hd;rfl
theorem rX (h:Rep w S β v .emp):∃ a,v=.slice a 0 0:=by cases h with|c hf h=>cases hf|emp a=>exact⟨a,rfl⟩
theorem lM {x:PV}(hx:kE x=true)(h:Rep w S β v x):(∃ a,v=.slice a 0 0)/\∀ {w':World} {S':Nat->Nat->Prop},Rep w' S' β v x:=by
 cases x with
 |nil=>cases h with|c hf h=>cases hf|nil=>exact⟨⟨_,rfl⟩,.nil⟩
 |emp=>cases h with|c hf h=>cases hf|emp a=>exact⟨⟨_,rfl⟩,.emp a⟩
 |_=>cases hx
theorem qP (h:Rep w S β v .nil):v=.slice none 0 0:=by cases h with|c hf h=>cases hf|nil=>rfl
theorem vL {cs}(h:Rep w S β v (.agg cs)):∃ vs:Array Value,v=.agg vs/\vs.size=cs.length/\∀ j,j<cs.length->Rep w S β (vs.getD j undef) (cs.getD j .any):=by cases h with|c hf h=>cases hf|agg hl h=>exact⟨_,rfl,hl,h⟩
theorem kS {cs}(h:Rep w S β v (.tup cs)):∃ vs:Array Value,v=.tuple vs/\vs.size=cs.length/\∀ j,j<cs.length->Rep w S β (vs.getD j undef) (cs.getD j .any):=by cases h with|c hf h=>cases hf|tup hl h=>exact⟨_,rfl,hl,h⟩
theorem kT {f cs}(h:Rep w S β v (.fn f cs)):∃ vs:Array Value,v=.func (.func f) #[] vs/\vs.size=cs.length/\∀ j,j<cs.length->Rep w S β (vs.getD j undef) (cs.getD j .any):=by cases h with|c hf h=>cases hf|fn hl h=>exact⟨_,rfl,hl,h⟩
theorem uF {n o}(h:Rep w S β v (.ptr n o)):∃ b,β n=some b/\v=.pointer (some ⟨b,o,none⟩):=by cases h with|c hf h=>cases hf|ptr hβ=>exact⟨_,hβ,rfl⟩
theorem qG {n s i o}(h:Rep w S β v (.aptr n s i o)):∃ b,β n=some b/\v=.pointer (some ⟨b,i ()*s+o,none⟩):=by cases h with|c hf h=>cases hf|aptr hβ=>exact⟨_,hβ,rfl⟩
theorem gY {cs o}(h:Rep w S β v (.dptr cs o)):∃ (b o':Nat) (vals:Nat->Value),(∀ j,j<cs.length->S b (o'+j))/\v=.pointer (some ⟨b,o'+o,none⟩)/\yN kQ cs=true /\ (∀ j,j<cs.length->w.cell? ⟨b,o'+j,none⟩=some (vals j))/\∀ j,j<cs.length->RepD w S (vals j) (toD (cs.getD j .any)):=by cases h with|c hf h=>cases hf|dptr vals hS hf hc hr=>exact⟨_,_,vals,hS,rfl,hf,hc,hr⟩
theorem w8 {n s o len}(h:Rep w S β v (.osl n s o len)):(β n=none/\o ()=0/\len ()=0/\∃ a,v=.slice a 0 0) \/ ∃ b cap vs T,β n=some b/\len ()<=cap/\w.heap[b]?=some (.cells vs T (0,0))/\(o ()+cap)*s<=vs.size/\v=.slice (some ⟨b,o ()*s,none⟩) (len ()) cap:=by
 cases h with
 |c hf h=>cases hf
 |osl hβ hlc hb hsz=>exact .inr ⟨_,_,_,_,hβ,hlc,hb,hsz,rfl⟩| osl0 hβ ho hl=>exact .inl ⟨hβ,ho,hl,_,rfl⟩
theorem qR {els}(h:RepD w S v (.sl els)):(els=[]/\∃ a cap,v=.slice a 0 cap) \/ ∃ (b o cap s:Nat) (vals:Nat->Nat->Value),els≠[]/\els.length<=cap/\(∀ i j,i<els.length->j<s->S b (o+i*s+j))/\(∀ e,e∈els->e.length=s) /\ (∀ i j,i<els.length->j<s->w.cell? ⟨b,o+i*s+j,none⟩=some (vals i j)) /\ (∀ i j,i<els.length->j<s->RepD w S (vals i j) ((els.getD i []).getD j .any))/\(∀ i j,i<els.length->j<s->(vals i j).oneCell'=true)/\v=.slice (some ⟨b,o,none⟩) els.length cap:=by
 cases h with
 |sl0 a cap=>exact .inl ⟨rfl,a,cap,rfl⟩| sl vals hne hcap hS hs hc h1 hr=>exact .inr ⟨_,_,_,_,vals,hne,hcap,hS,hs,hc,hr,h1,rfl⟩
theorem gW {els}(h:Rep w S β v (.sl els)):RepD w S v (.sl (els ())):=by cases h with|c hf h=>exact h
theorem lN {pv}(h:Rep w S β v pv)(hf:kQ pv=true):RepD w S v (toD pv):=by
 cases h with
 |c hf h=>exact h| _=>simp[kQ] at hf
theorem bF {pv}(h:Rep w S β v pv)(hf:sJ pv=true):RepD w S v (toD pv):=by
 cases pv with
 |nil=>rw[qP h];exact .sl0 _ _| _=>exact lN h (by simpa[sJ] using hf)
theorem oT (v:Value):Rep w S β v (x8 v):=by unfold x8;split;{exact .c rfl (.int _ _)};{exact .c rfl (.bool true)};{exact .c rfl (.bool false)};{exact .c rfl (.str _)};{exact .nil};{exact .nilf};{exact .nilp};{exact .c rfl (.any _)}
theorem xL (v:Value):Rep w S β v .any:=.c rfl (.any v)
end inv
structure Cx where
 n:Nat
 b0:Bm
instance:Coe Cx Nat:=⟨Cx.n⟩
structure Sim (w0:World) (S0:Nat->Nat->Prop) (K0:Nat->Prop) (N:Cx) (τ:Nat->PV) (objs:List (Nat×Obj')) (a:Act) (w:World) (S:Nat->Nat->Prop) (β:Bm):Prop where
 dfr:a.defers=[]
 sz:a.tmps.size=N
 ld:Leads w0 S0 K0 w S
 tmp:∀ t,Rep w S β (a.tmps.getD t undef) (τ t)
 obj:ObjsAt w S β objs
 own:∀ n o b,(n,o)∈objs->Own β n o b->w0.heap.size<=b\/K0 b
 keep:∀ n o,(n,o)∈objs->1000000<=n->β n=N.b0 n
def upd (τ:Nat->PV) (d:Option Nat) (x:PV):Nat->PV :=
 match d with
 |none=>τ| some d=>fun t=>if t=d then x else τ t
theorem jV (l:List (Nat×PV))(d:Nat)(x:PV)(t:Nat):zB (w9 l d x) t=if t=d then x else zB l t:=by
 induction l with
 |nil =>
  by_cases h:t=d;{subst h;simp[w9,zB]};{have:nqb d t=false:=nbeq fun e=>h e.symm;simp[w9,zB,this,h]}
 |cons p r ih =>
  obtain⟨u,v⟩:=p;by_cases hu:u=d;{subst hu;by_cases h:t=u;{subst h;simp[w9,zB]};{have:nqb u t=false:=nbeq fun e=>h e.symm;simp[w9,zB,this,h]}};{have h1:nqb u d=false:=nbeq hu;by_cases h:u=t;{subst h;simp[w9,zB,h1,hu]};{have h2:nqb u t=false:=nbeq h;simp[w9,zB,h1,h2,ih]}}
theorem yY (ps:PS)(d:Option Nat)(x:PV):zB (put ps d x).tmps=upd (zB ps.tmps) d x:=by
 cases d with
 |none=>rfl| some d=>funext t;simp[put,upd,jV]
theorem vQ (ps:PS)(d:Option Nat)(x:PV):(put ps d x).objs=ps.objs:=by cases d <;> rfl
section sim
variable {w0:World} {S0:Nat->Nat->Prop} {K0:Nat->Prop} {N:Cx} {τ:Nat->PV} {objs:List (Nat×Obj')} {a:Act} {w:World} {S:Nat->Nat->Prop} {β:Bm}
theorem Sim.put (h:Sim w0 S0 K0 N τ objs a w S β)(d:Option Nat)(hd:∀ t,d=some t->t<N){v:Value}{x:PV}(hv:Rep w S β v x):Sim w0 S0 K0 N (upd τ d x) objs (a.put d v) w S β:=by
 cases d with
 |none=>exact h| some d =>
  have hN:=hd d rfl;refine⟨h.dfr,by simpa[Act.put] using h.sz,h.ld,fun t=>?_,h.obj,h.own,h.keep⟩;simp only[upd];by_cases ht:t=d
  ·(subst ht;have:t<a.tmps.size:=by rw[h.sz];exact hN);simpa[Act.put,this] using hv
  {rw[if_neg ht];have:=h.tmp t;simpa[Act.put,Array.getElem?_setIfInBounds_ne (Ne.symm ht)] using this}
theorem Sim.eval (h:Sim w0 S0 K0 N τ objs a w S β)(x:Operand):Rep w S β (a.eval x) (ev τ x):=by
 cases x with
 |tmp t=>exact h.tmp t| const v=>exact oT v| global g=>exact xL _| func f=>exact .fn rfl (fun j hj=>by simp at hj)
theorem yW {l:List (Nat×Obj')}{n:Nat}{o:Obj'}(h:z7 l n=some o):(n,o)∈l:=by
 induction l with
 |nil=>simp[z7] at h| cons p r ih =>
  obtain⟨u,v⟩:=p;simp only[z7] at h;cases hu:nqb u n with
  |true=>simp only[hu,cond_true,Option.some.injEq] at h;have:=yC hu;subst this h;exact List.mem_cons_self| false=>simp only[hu,cond_false] at h;exact List.mem_cons_of_mem _ (ih h)
end sim
theorem uJ {o:Oper}{a:Act}{w w':World}{v:Value}{Km:Act->World->Prop}{Q:Exit->Act->World->Prop} (h:(execOp a.eval o).run Pg w=.ok (.value v) w') (hk:Km (a.put o.dst v) w'):o.wp Pg a w Km Q:=by unfold Oper.wp;rw[h];exact hk
theorem nX {o:Oper}{a:Act}{w w':World}{Km:Act->World->Prop}{Q:Exit->Act->World->Prop} (h:(execOp a.eval o).run Pg w=.ok .skip w') (hk:Km (a.put o.dst undef) w'):o.wp Pg a w Km Q:=by unfold Oper.wp;rw[h];exact hk
theorem zCL {t:TypeId}{i:TypeInfo}(h:Pg.info? t=some i)(w:World):(typeInfo t).run Pg w=.ok i w:=by simp[typeInfo,h]
theorem wR {t:TypeId}{i:TypeInfo}(h:Pg.info? t=some i)(w:World):(sizeOf t).run Pg w=.ok i.size w:=by simp[sizeOf,zCL h]
theorem bC {t:TypeId}{i:TypeInfo}{z:Value}(h:Pg.info? t=some i)(hz:i.zero=some z)(w:World):(zeroValue t).run Pg w=.ok z w:=by simp[zeroValue,zCL h,hz]
theorem vE {t:TypeId}(h:0<Pg.cellsOf t):∃ i,Pg.info? t=some i/\i.size=Pg.cellsOf t:=by
 unfold Program.cellsOf at *
 cases hi:Pg.info? t with
 |none=>simp[hi] at h| some i=>exact⟨i,rfl,by simp⟩
theorem dK {t:TypeId}{d:TypeDesc}(h:Pg.underlying t=some d)(w:World):(isAgg t).run Pg w=.ok (u7 Pg t) w:=by unfold isAgg u7;simp only[Sem.run_bind,run_underlying h,Result.andThen_ok,h];cases d <;> rfl
theorem uB (b o n:Nat):(⟨b,o,none⟩:Addr).add n=⟨b,o+n,none⟩:=by unfold Addr.add;split;{rename_i h;subst h;rfl};{rfl}
theorem zAV {t:Nat}(h:(ty t).isNo=false):∃ i d,Pg.info? t=some i/\Pg.underlying t=some d/\i.size=(ty t).cells/\u7 Pg t=(ty t).isA:=by
 cases ht:ty t with
 |no=>simp[ht,Ty.isNo] at h| sc z=>obtain⟨i,d,zv,h1,h2,h3,_,h5,_⟩:=oJ ht;exact⟨i,d,h1,h2,h3,h5⟩
 |st n fs z=>obtain⟨i,fields,zs,h1,h2,_,h4,_⟩:=n6 ht;exact⟨i,_,h1,h2,h4,by simp[u7,h2,Ty.isA]⟩
 |arr len n ag z=>obtain⟨i,e,zs,h1,h2,_,h4,_⟩:=sH ht;exact⟨i,_,h1,h2,h4,by simp[u7,h2,Ty.isA]⟩
 |sli n b z=>obtain⟨i,e,j,zv,h1,h2,_,h3,_⟩:=w5 ht;exact⟨i,_,h1,h3,h2,by simp[u7,h3,Ty.isA]⟩
theorem zAL {t:Nat}(h:(ty t).isNo=false)(ha:(ty t).isA=false):(ty t).cells=1:=by
 cases ht:ty t <;> simp[ht,Ty.isNo,Ty.isA,Ty.cells] at *
theorem zD2 {t:Nat}(hno:(ty t).isNo=false){w:World}{b o:Nat}(vals:Nat->Value)(hc:∀ j,j<(ty t).cells->w.cell? ⟨b,o+j,none⟩=some (vals j)):(Instr.loadAt t (.pointer (some ⟨b,o,none⟩))).run Pg w=.ok (if (ty t).isA then .agg ((List.range (ty t).cells).map vals).toArray else vals 0) w:=by
 obtain⟨i,d,hi,hu,hs,ha⟩:=zAV hno;have hl:=run_loadCells (P:=Pg) w ⟨b,o,none⟩ (ty t).cells vals (fun j hj=>by rw[uB];exact hc j hj);cases hA:(ty t).isA with
 |true =>
  simp[Instr.loadAt,Instr.sureAddr,loadVar,dK hu,ha,hA,wR hi,hs,hl]
 |false =>
  have h1:=zAL hno hA;have hc0:=hc 0 (by omega);simp only[Nat.add_zero] at hc0;simp[Instr.loadAt,Instr.sureAddr,loadVar,dK hu,ha,hA,hc0]
section
variable {w:World} {S:Nat->Nat->Prop} {β:Bm}
theorem iQ (cs:List PV)(off n j:Nat)(hj:j<n)(hn:off+n<=cs.length):((cs.drop off).take n).getD j .any=cs.getD (off+j) .any:=by simp only[List.getD_eq_getElem?_getD];rw[List.getElem?_take_of_lt hj,List.getElem?_drop]
theorem dO {t:Nat}{cs:List PV}{off:Nat}{K:PV->Prop}(h:rdK (ty t) cs off K){b o:Nat}(vals:Nat->Value) (hc:∀ j,j<cs.length->w.cell? ⟨b,o+j,none⟩=some (vals j)) (hr:∀ j,j<cs.length->Rep w S β (vals j) (cs.getD j .any)):∃ pv val,K pv/\(Instr.loadAt t (.pointer (some ⟨b,o+off,none⟩))).run Pg w=.ok val w/\Rep w S β val pv:=by
 unfold rdK at h;cases hno:(ty t).isNo with
 |true=>simp[hno] at h| false =>
  simp only[hno,cond_false] at h;cases hle:nle (off+(ty t).cells) cs.length with
  |false=>simp[hle] at h| true =>
   simp only[hle,cond_true] at h;have hle:=bO hle;refine⟨_,_,h,zD2 hno (fun j=>vals (off+j)) (fun j hj=>by rw[Nat.add_assoc];exact hc _ (by omega)),?_⟩;cases hA:(ty t).isA with
   |true =>
    (simp only[cond_true,if_true];refine .agg (by simp;omega) fun j hj=>?_;have hj':j<(ty t).cells:=by simp at hj;omega);rw[iQ _ _ _ _ hj' hle]
    simpa[hj'] using hr (off+j) (by omega)
   |false =>
    have h1:=zAL hno hA;simpa using hr off (by omega)
theorem zAO {cs:List PV}{vals:Nat->Value}(hf:yN kQ cs=true)(hr:∀ j,j<cs.length->RepD w S (vals j) (toD (cs.getD j .any)))(j:Nat)(hj:j<cs.length):Rep w S β (vals j) (cs.getD j .any):=.c (y6 rfl hf j) (hr j hj)
theorem uU:∀ (c:List PV) (j:Nat),(xM c).getD j .any=toD (c.getD j .any)
 |[],j=>by simp[xM,toD]| x::c,0=>by simp[xM]| x::c,j+1=>by simpa[xM] using uU c j
theorem vV:∀ (c:List PV),(xM c).length=c.length
 |[]=>rfl| x::c=>by simp[xM,vV c]
end
section
variable {w:World} {S:Nat->Nat->Prop} {β:Bm} {K:PV->Prop}
theorem mH {v:Value}{x:PV}{A B:Unit->Prop}(hr:Rep w S β v x)(h:brV x A B):∃ b,v=.bool b/\(b=true->A ())/\(b=false->B ()):=by unfold brV at h;split at h;{exact⟨true,tM hr,fun _=>h,fun e=>by cases e⟩};{exact⟨false,tN hr,fun e=>(by cases e),fun _=>h⟩};{exact⟨_,gZ hr,fun e=>h.t e,fun e=>h.f e⟩};{exact⟨_,gF hr,fun e=>h.f (by simpa using e),fun e=>h.t (by simpa using e)⟩};{exact h.elim}
theorem bbeq (a b:Bool):(a == b)=decide (a=b):=by cases a <;> cases b <;> rfl
theorem ibeq (a b:Int):(a == b)=decide (a=b):=by rw[Bool.eq_iff_iff];simp
theorem in64 {z:Unit->Int}(h:InI64 z):IntKind.i64.wrap (z ())=z ():=IntWalk.i64_in _ ⟨h.lo,h.hi⟩
theorem gX (k:IntKind)(n:Unit->Int):Rep w S β (.int k (n ())) (.int k n):=.c rfl (.int _ _)
theorem dM (b:Unit->Bool):Rep w S β (.bool (b ())) (.bool b):=.c rfl (.bool _)
theorem bG (b:Unit->Bool):Rep w S β (.bool (!(b ()))) (.nbool b):=.c rfl (.bool _)
theorem aV {k:IntKind}{z:Unit->Int}(h:arK k z K):∃ pv,K pv/\Rep w S β (.int k (k.wrap (z ()))) pv:=by unfold arK at h;split at h;{exact⟨_,h.2,by rw[in64 h.1];exact gX _ _⟩};{exact⟨_,h,by have:=gX (w:=w) (S:=S) (β:=β) k (fun _=>nx k (z ()));unfold nx at this ⊢;exact this⟩}
theorem yU (op:BinOp)(t:TypeId)(x y:Operand)(v u:Value)(h:∀ cs,v≠.agg cs)(hn:v≠.nilIface):(eqGuard op t x y v u).run Pg w=.ok () w:=by
 unfold eqGuard;cases op <;> first
  |rfl
  |(cases v <;> first
   |(exact absurd rfl (h _))
   |(exact absurd rfl hn)
   |(cases u <;> rfl))
theorem zEA {op:BinOp}{t:TypeId}{x y:Operand}{k k':IntKind}{a b:Unit->Int}(h:intK op k a k' b K):∃ pv val,K pv/\(binOp op t (.int k (a ())) (.int k' (b ()))).run Pg w=.ok val w/\Rep w S β val pv:=by
 unfold intK at h;split at h
 ·(refine⟨_,_,h.2,?_,gX k (fun _=>ishl k (a ()) (b ()))⟩;have h0:¬b ()<0:=by have:=h.1.h;omega);simp[binOp,Op.shift,h0,ishl]
 ·(refine⟨_,_,h.2,?_,gX k (fun _=>ishr k (a ()) (b ()))⟩;have h0:¬b ()<0:=by have:=h.1.h;omega);simp[binOp,Op.shift,h0,ishr]
 ·rename_i op h1 h2;cases hk:zHR k k' with
  |false=>simp[hk] at h| true =>
   (have hk':k=k':=by simpa[zHR] using hk);subst hk'
   simp only[hk,cond_true] at h;split at h;{obtain⟨pv,hp,hr⟩:=aV (w:=w) (S:=S) (β:=β) h;exact⟨pv,_,hp,by simp[binOp,Op.intArith],hr⟩};{obtain⟨pv,hp,hr⟩:=aV (w:=w) (S:=S) (β:=β) h;exact⟨pv,_,hp,by simp[binOp,Op.intArith],hr⟩};{obtain⟨pv,hp,hr⟩:=aV (w:=w) (S:=S) (β:=β) h;exact⟨pv,_,hp,by simp[binOp,Op.intArith],hr⟩};{refine⟨_,_,h.2,?_,gX k (fun _=>nx k (iquo (a ()) (b ())))⟩;have h0:=h.1.h;simp[binOp,Op.intDiv,h0,nx,iquo]};{refine⟨_,_,h.2,?_,gX k (fun _=>irem (a ()) (b ()))⟩;have h0:=h.1.h;simp[binOp,Op.intDiv,h0,irem]};{exact⟨_,_,h,by simp[binOp,Op.intBits,iand],gX k (fun _=>iand k (a ()) (b ()))⟩};{exact⟨_,_,h,by simp[binOp,Op.intBits,ior],gX k (fun _=>ior k (a ()) (b ()))⟩};{exact⟨_,_,h,by simp[binOp,Op.intCmp,ibeq],dM (fun _=>decide (a ()=b ()))⟩};{exact⟨_,_,h,by simp[binOp,Op.intCmp,bne,ibeq],bG (fun _=>decide (a ()=b ()))⟩};{exact⟨_,_,h,by simp[binOp,Op.intCmp],dM (fun _=>decide (a ()<b ()))⟩};{exact⟨_,_,h,by simp[binOp,Op.intCmp],dM (fun _=>decide (a ()<=b ()))⟩};{exact⟨_,_,h,by simp[binOp,Op.intCmp],dM (fun _=>decide (b ()<a ()))⟩};{exact⟨_,_,h,by simp[binOp,Op.intCmp],dM (fun _=>decide (b ()<=a ()))⟩};{exact h.elim}
theorem iM:∀ {cs:List PV} {l:List (Unit->Int)},mC cs=some l->∀ {vs:List Value},vs.length=cs.length->(∀ j,j<cs.length->Rep w S β (vs.getD j undef) (cs.getD j .any))->vs=(pR l).map (Value.int .i64):=by
 intro cs;induction cs with
 |nil=>intro l h vs hl _;simp[mC] at h;subst h;cases vs with
  |nil=>rfl| cons v vs=>simp at hl
 |cons c cs ih =>
  intro l h vs hl hr;unfold mC at h;split at h
  ·simp at *
  ·rename_i n r heq;cases heq;split at h
   ·rename_i l' hl';simp only[Option.some.injEq] at h;subst h;cases vs with
    |nil=>simp at hl| cons v vs =>
     have h0:=xV (by simpa using hr 0 (by simp));have:=ih hl' (vs:=vs) (by simpa using hl) (fun j hj=>by simpa using hr (j+1) (by simp;omega));simp[pR,h0,this]
   {simp at h}
  {simp at h}
theorem cU {v:Value}{x:PV}{b:Unit->Bool}(h:bval x=some b)(hr:Rep w S β v x):v=.bool (b ()):=by unfold bval at h;split at h;{cases h;exact tM hr};{cases h;exact tN hr};{cases h;exact gZ hr};{cases h}
theorem zAR {t n b:Nat}{z:List PV}{x:Operand}{els:Unit->List (List D)}{v:Value}(hty:ty t=.sli n b z)(hx:Rep w S β v (.sl els))(h:NilCmp els K):∃ pv val,K pv/\((do eqGuard .eql t x (.const (.slice none 0 0)) v (.slice none 0 0);binOp .eql t v (.slice none 0 0):Sem Value)).run Pg w=.ok val w/\Rep w S β val pv:=by
 obtain⟨inf,el,j,zv,h1,h2,h3,h4,_⟩:=w5 hty;have hsl:=gW hx;obtain⟨ax,cap,hx'⟩:∃ ax cap,v=.slice ax (els ()).length cap:=by rcases qR hsl with⟨e0,aa,cap,hv⟩|⟨bb,oo,cap,s,vals,_,_,_,_,_,_,_,hv⟩;{exact⟨aa,cap,by rw[hv,e0];rfl⟩};{exact⟨_,cap,hv⟩}
 have hcap0:ax=none->els ()=[]:=by intro e;subst e;rcases qR hsl with⟨e0,aa,cap,hv⟩|⟨bb,oo,cap,s,vals,_,_,_,_,_,_,_,hv⟩;{exact e0};{rw[hx'] at hv;cases hv}
 subst hx';refine⟨_,_,h.h ax.isNone (fun e=>hcap0 (by simpa using e)),?_,dM (fun _=>ax.isNone)⟩;rw[Sem.run_bind,yU _ _ _ _ _ _ (by intro cs e;cases e) (by intro e;cases e),Result.andThen_ok];simp only[binOp];simp[Op.equal,Op.maxDepth,Lib.run_equalIn_slice_nil w 9999 t el ax (els ()).length cap 0 0 h4]
theorem zAQ {t n b:Nat}{z:List PV}{x:Operand}{m s:Nat}{o len:Unit->Nat}{v:Value}(hty:ty t=.sli n b z)(hx:Rep w S β v (.osl m s o len))(h:NilLen len K):∃ pv val,K pv/\((do eqGuard .eql t x (.const (.slice none 0 0)) v (.slice none 0 0);binOp .eql t v (.slice none 0 0):Sem Value)).run Pg w=.ok val w/\Rep w S β val pv:=by
 obtain⟨inf,el,j,zv,h1,h2,h3,h4,_⟩:=w5 hty;obtain⟨ax,ln,cap,hx',hcap0⟩:∃ ax ln cap,v=.slice ax ln cap/\(ax=none->len ()=0):=by rcases w8 hx with⟨_,_,e0,aa,hv⟩|⟨bb,cap,vs,T,_,_,_,_,hv⟩;{exact⟨aa,0,0,hv,fun _=>e0⟩};{exact⟨_,_,cap,hv,fun e=>by cases e⟩}
 subst hx';refine⟨_,_,h.h ax.isNone (fun e=>hcap0 (by simpa using e)),?_,dM (fun _=>ax.isNone)⟩;rw[Sem.run_bind,yU _ _ _ _ _ _ (by intro cs e;cases e) (by intro e;cases e),Result.andThen_ok];simp only[binOp];simp[Op.equal,Op.maxDepth,Lib.run_equalIn_slice_nil w 9999 t el ax ln cap 0 0 h4]
theorem zD7 {t n b:Nat}{z:List PV}{x:Operand}(hty:ty t=.sli n b z):((do eqGuard .eql t x (.const (.slice none 0 0)) (.slice none 0 0) (.slice none 0 0);binOp .eql t (.slice none 0 0) (.slice none 0 0):Sem Value)).run Pg w=.ok (.bool true) w:=by obtain⟨inf,el,j,zv,h1,h2,h3,h4,_⟩:=w5 hty;rw[Sem.run_bind,yU _ _ _ _ _ _ (by intro cs e;cases e) (by intro e;cases e),Result.andThen_ok];simp only[binOp];simp[Op.equal,Op.maxDepth,Lib.run_equalIn_slice_nil w 9999 t el none 0 0 0 0 h4]
theorem zBP {t n b:Nat}{z:List PV}{x:Operand}(hty:ty t=.sli n b z):((do eqGuard .neq t x (.const (.slice none 0 0)) (.slice none 0 0) (.slice none 0 0);binOp .neq t (.slice none 0 0) (.slice none 0 0):Sem Value)).run Pg w=.ok (.bool false) w:=by obtain⟨inf,el,j,zv,h1,h2,h3,h4,_⟩:=w5 hty;rw[Sem.run_bind,yU _ _ _ _ _ _ (by intro cs e;cases e) (by intro e;cases e),Result.andThen_ok];simp only[binOp];simp[Op.equal,Op.maxDepth,Lib.run_equalIn_slice_nil w 9999 t el none 0 0 0 0 h4]
theorem eZ {t n b:Nat}{z:List PV}{x:Operand}{els:Unit->List (List D)}{v:Value}(hty:ty t=.sli n b z)(hx:Rep w S β v (.sl els))(h:NilCmp els (fun v=>K (notV v))):∃ pv val,K pv/\((do eqGuard .neq t x (.const (.slice none 0 0)) v (.slice none 0 0);binOp .neq t v (.slice none 0 0):Sem Value)).run Pg w=.ok val w/\Rep w S β val pv:=by
 obtain⟨inf,el,j,zv,h1,h2,h3,h4,_⟩:=w5 hty;have hsl:=gW hx;obtain⟨ax,cap,hx'⟩:∃ ax cap,v=.slice ax (els ()).length cap:=by rcases qR hsl with⟨e0,aa,cap,hv⟩|⟨bb,oo,cap,s,vals,_,_,_,_,_,_,_,hv⟩;{exact⟨aa,cap,by rw[hv,e0];rfl⟩};{exact⟨_,cap,hv⟩}
 have hcap0:ax=none->els ()=[]:=by intro e;subst e;rcases qR hsl with⟨e0,aa,cap,hv⟩|⟨bb,oo,cap,s,vals,_,_,_,_,_,_,_,hv⟩;{exact e0};{rw[hx'] at hv;cases hv}
 subst hx';refine⟨_,_,h.h ax.isNone (fun e=>hcap0 (by simpa using e)),?_,bG (fun _=>ax.isNone)⟩;rw[Sem.run_bind,yU _ _ _ _ _ _ (by intro cs e;cases e) (by intro e;cases e),Result.andThen_ok];simp only[binOp];simp[Op.equal,Op.maxDepth,Lib.run_equalIn_slice_nil w 9999 t el ax (els ()).length cap 0 0 h4]
theorem eY {t n b:Nat}{z:List PV}{x:Operand}{m s:Nat}{o len:Unit->Nat}{v:Value}(hty:ty t=.sli n b z)(hx:Rep w S β v (.osl m s o len))(h:NilLen len (fun v=>K (notV v))):∃ pv val,K pv/\((do eqGuard .neq t x (.const (.slice none 0 0)) v (.slice none 0 0);binOp .neq t v (.slice none 0 0):Sem Value)).run Pg w=.ok val w/\Rep w S β val pv:=by
 obtain⟨inf,el,j,zv,h1,h2,h3,h4,_⟩:=w5 hty;obtain⟨ax,ln,cap,hx',hcap0⟩:∃ ax ln cap,v=.slice ax ln cap/\(ax=none->len ()=0):=by rcases w8 hx with⟨_,_,e0,aa,hv⟩|⟨bb,cap,vs,T,_,_,_,_,hv⟩;{exact⟨aa,0,0,hv,fun _=>e0⟩};{exact⟨_,_,cap,hv,fun e=>by cases e⟩}
 subst hx';refine⟨_,_,h.h ax.isNone (fun e=>hcap0 (by simpa using e)),?_,bG (fun _=>ax.isNone)⟩;rw[Sem.run_bind,yU _ _ _ _ _ _ (by intro cs e;cases e) (by intro e;cases e),Result.andThen_ok];simp only[binOp];simp[Op.equal,Op.maxDepth,Lib.run_equalIn_slice_nil w 9999 t el ax ln cap 0 0 h4]
theorem zDV {op:BinOp}{t:TypeId}{a b:Unit->ByteArray}(h:strK op a b K):∃ pv val,K pv/\(binOp op t (.string (a ())) (.string (b ()))).run Pg w=.ok val w/\Rep w S β val pv:=by
 unfold strK at h;split at h
 ·refine⟨_,.string (a ()++b ()),h.2,?_,.c rfl (.str _)⟩;have h0:¬((((a ()).size+(b ()).size:Nat):Int) > IntKind.i64.max):=by
   (have:=h.1.h;have e:IntKind.i64.max=9223372036854775807:=by decide);rw[e];omega
  simp only[binOp,Op.stringOp];rw[if_neg h0];simp[Sem.run_pure]
 {exact⟨_,_,h,by simp[binOp,Op.stringOp,Sem.run_pure],dM (fun _=>(a ()).toList == (b ()).toList)⟩};{exact⟨_,_,h,by simp[binOp,Op.stringOp,Sem.run_pure],bG (fun _=>(a ()).toList == (b ()).toList)⟩};{exact h.elim}
theorem zEH {v:Value}{ns:List Int}{els:List (List D)}(he:els=ns.map fun n=>[D.int .u8 n])(h:RepD w S v (.sl els)):∃ a len cap,v=.slice a len cap/\(Conv.bytesToString (.slice a len cap)).run Pg w=.ok (.string (nV ns)) w:=by
 rcases qR h with⟨e0,a,cap,hv⟩|⟨b,o,cap,s,vals,hne,hcap,hS,hs,hc,hr,h1,hv⟩
 ·(have hn:ns=[]:=by rw[e0] at he;exact List.map_eq_nil_iff.1 he.symm);subst hn;refine⟨a,0,cap,by rw[hv],?_⟩;cases a with
  |none=>simp[Conv.bytesToString,Sem.run_pure,nV]| some a=>exact run_bytesToString w a 0 cap [] (by simp[loadCells,loadCellsFrom,Sem.run_pure])
 ·(refine⟨some ⟨b,o,none⟩,els.length,cap,hv,run_bytesToString w ⟨b,o,none⟩ els.length cap ns ?_⟩;have hl:els.length=ns.length:=by rw[he,List.length_map]);have hs1:s=1:=by
   cases hels:els with
   |nil=>exact absurd hels hne| cons e r =>
    (have:=hs e (by rw[hels];exact List.mem_cons_self);rw[<-this];have hm:e∈ns.map fun n=>[D.int .u8 n]:=by rw[<-he,hels];exact List.mem_cons_self);obtain⟨n,_,rfl⟩:=List.mem_map.1 hm
    rfl
  subst hs1;have hl2:=run_loadCells (P:=Pg) w ⟨b,o,none⟩ els.length (fun j=>.int .u8 (ns.getD j 0)) (fun j hj=>by
   have g:=hc j 0 hj (by omega);have r:=hr j 0 hj (by omega);have e:els.getD j []=[D.int .u8 (ns.getD j 0)]:=by
    (rw[he];have hj':j<ns.length:=by omega);simp[List.getD_eq_getElem?_getD,hj']
   (rw[e] at r;have r':RepD w S (vals j 0) (.int .u8 (ns.getD j 0)):=by simpa using r);cases hx:vals j 0 with
   |_=>rw[hx] at r' g;cases r' <;> (rw[uB];simpa using g))
  rw[hl2];congr 1;rw[hl];congr 1;refine List.ext_getElem (by simp) fun i h1 h2=>?_;simp at h1 h2;simp[List.getD_eq_getElem?_getD,h1]
theorem dL (w:World)(d:Nat)(t e:TypeId)(a b:Option Addr)(hu:Pg.underlying t=some (.pointer e))(h:(a.isNone || b.isNone)=true):(Op.equalIn (d+1) t (.pointer a) (.pointer b)).run Pg w=.ok (a.isNone&&b.isNone) w:=by cases a <;> cases b <;> simp at h <;> simp[Op.equalIn,run_underlying hu]
theorem gC {x:PV}{v:Value}{a:Bool}(h:zE3 x=some a)(hx:Rep w S β v x):∃ p,v=.pointer p/\p.isNone=a:=by
 cases x with
 |nilp=>cases h;cases hx with|c hf h=>cases hf|nilp=>exact⟨none,rfl,rfl⟩
 |ptr n o=>cases h;obtain⟨b,_,rfl⟩:=uF hx;exact⟨_,rfl,rfl⟩
 |_=>cases h
theorem zEI {op:BinOp}{t:TypeId}{ox oy:Operand}{x y:PV}{v u:Value}(hoy:∀ c,oy=.const c->u=c)(hx:Rep w S β v x)(hy:Rep w S β u y)(h:binK op t ox oy x y K):∃ pv val,K pv/\((do eqGuard op t ox oy v u;binOp op t v u:Sem Value)).run Pg w=.ok val w/\Rep w S β val pv:=by
 unfold binK at h;split at h;{rename_i k a k' b;have e1:=xV hx;have e2:=xV hy;subst e1 e2;obtain⟨pv,val,h1,h2,h3⟩:=zEA (w:=w) (S:=S) (β:=β) (t:=t) (x:=ox) (y:=oy) h;exact⟨pv,val,h1,by simp[yU,h2],h3⟩};{rename_i a b;have e1:=nH hx;have e2:=nH hy;subst e1 e2;obtain⟨pv,val,h1,h2,h3⟩:=zDV (w:=w) (S:=S) (β:=β) (t:=t) h;exact⟨pv,val,h1,by simp[yU,h2],h3⟩}
 ·rename_i l m;split at h
  ·(rename_i a b ha hb;obtain⟨vs,rfl,hl1,hr1⟩:=vL hx;obtain⟨us,rfl,hl2,hr2⟩:=vL hy;have e1:vs=((pR a).map (Value.int .i64)).toArray:=by have:=iM ha (vs:=vs.toList) (by simpa using hl1) (fun j hj=>by simpa using hr1 j hj);rw[<-this]);have e2:us=((pR b).map (Value.int .i64)).toArray:=by have:=iM hb (vs:=us.toList) (by simpa using hl2) (fun j hj=>by simpa using hr2 j hj);rw[<-this]
   obtain⟨r,h1,h2⟩:=h.h;refine⟨_,_,h2,?_,dM (fun _=>r)⟩;rw[e1,e2];exact h1 w
  {exact h.elim}
 ·split at h
  ·(rename_i hty;have hu:Pg.underlying t=some .bool:=by obtain⟨i,d,zv,h1,h2,h3,h4,h5,h6,h7,h8,h9⟩:=oJ hty;rw[h2,h9 rfl]);split at h
   {rename_i a b ha hb;have e1:=cU ha hx;have e2:=cU hb hy;subst e1 e2;refine⟨_,_,h,?_,dM (fun _=>decide (a ()=b ()))⟩;simp[yU,binOp,Op.equal,Op.maxDepth,run_equalIn_bool' w 9999 t _ _ hu,bbeq]};{rename_i a b ha hb;have e1:=cU ha hx;have e2:=cU hb hy;subst e1 e2;refine⟨_,_,h,?_,bG (fun _=>decide (a ()=b ()))⟩;simp[yU,binOp,Op.equal,Op.maxDepth,run_equalIn_bool' w 9999 t _ _ hu,bbeq]};{exact h.elim}
  ·rename_i hty;obtain⟨e,hu⟩:=zMM hty;split at h
   ·rename_i a b ha hb;obtain⟨va,rfl,e1⟩:=gC ha hx;obtain⟨vb,rfl,e2⟩:=gC hb hy;cases hab:a || b with
    |false=>simp only[hab] at h| true =>
     simp only[hab] at h;refine⟨_,_,h,?_,dM (fun _=>a&&b)⟩;subst e1 e2;simp[yU,binOp,Op.equal,Op.maxDepth,dL w 9999 t e _ _ hu hab]
   ·rename_i a b ha hb;obtain⟨va,rfl,e1⟩:=gC ha hx;obtain⟨vb,rfl,e2⟩:=gC hb hy;cases hab:a || b with
    |false=>simp only[hab] at h| true =>
     simp only[hab] at h;refine⟨_,_,h,?_,bG (fun _=>a&&b)⟩;subst e1 e2;simp[yU,binOp,Op.equal,Op.maxDepth,dL w 9999 t e _ _ hu hab]
   {exact h.elim}
  {exact h.elim}
theorem iV {t n:Nat}{fs:List (Nat×Nat×Bool)}{z:List PV}(ht:ty t=.st n fs z){i off sz:Nat}{ag:Bool}(hi:fs[i]?=some (off,sz,ag)):∃ (fields:Array Field) (f:Field),Pg.underlying t=some (.struct fields)/\fields[i]?=some f/\f.offset=off/\Pg.cellsOf f.type=sz/\u7 Pg f.type=ag/\0<sz:=by
 obtain⟨inf,fields,zs,h1,h2,_,_,_,hfs,_,hpos⟩:=n6 ht;rw[hfs] at hi;rw[List.getElem?_map] at hi;cases hf:fields.toList[i]? with
 |none=>simp[hf] at hi| some f =>
  simp only[hf,Option.map_some,Option.some.injEq,Prod.mk.injEq] at hi;obtain⟨h3,h4,h5⟩:=hi;refine⟨fields,f,h2,by simpa using hf,h3,h4,h5,?_⟩;rw[<-h4];exact hpos f (List.mem_of_getElem? hf)
theorem fZ {t n:Nat}{fs:List (Nat×Nat×Bool)}{z:List PV}(ht:ty t=.st n fs z){i off sz:Nat}{ag:Bool}(hi:fs[i]?=some (off,sz,ag))(b o:Nat):(Instr.fieldAt t (.pointer (some ⟨b,o,none⟩)) i).run Pg w=.ok (.pointer (some ⟨b,o+off,none⟩)) w:=by
 obtain⟨fields,f,hu,hf,hoff,hsz,_,hp⟩:=iV ht hi;obtain⟨inf,h1,h2⟩:=vE (t:=f.type) (by omega);have h3:inf.size≠0:=by omega
 simp[Instr.fieldAt,run_underlying hu,hf,Instr.sureAddr,fieldPlace,wR h1,h3,uB,hoff]
theorem fY {t e:Nat}{j:TypeInfo}(hu:Pg.underlying t=some (.slice e))(hj:Pg.info? e=some j)(b o len cap:Nat)(k:IntKind)(i:Int)(h0:0<=i)(h1:i<(len:Int)):(Instr.indexAt t (.slice (some ⟨b,o,none⟩) len cap) (.int k i)).run Pg w=.ok (.pointer (some ⟨b,o+i.toNat*j.size,none⟩)) w:=by simp[Instr.indexAt,asIntOf,run_underlying hu,h0,h1,wR hj,uB]
theorem rU {t e len:Nat}{j:TypeInfo}(hu:Pg.underlying t=some (.array len e))(hj:Pg.info? e=some j)(b o:Nat)(k:IntKind)(i:Int)(h0:0<=i)(h1:i<(len:Int)):(Instr.indexAt t (.pointer (some ⟨b,o,none⟩)) (.int k i)).run Pg w=.ok (.pointer (some ⟨b,o+i.toNat*j.size,none⟩)) w:=by simp[Instr.indexAt,asIntOf,run_underlying hu,h0,h1,wR hj,uB,Instr.sureAddr]
theorem m8 {t e:Nat}(hu:Pg.underlying t=some (.slice e))(x:Value)(lo hi:Option Value):(Instr.sliceAt t x lo hi none).run Pg w=(Instr.slice t x lo hi none).run Pg w:=by simp[Instr.sliceAt,run_underlying hu]
end
end Go.Proofs.YtfainocfaddbdaaGreat
