/- A part of the proof: PmD, PmE, PmF. -/
import Derived.Test.YtboocdbmnfjomaaGreatV04
import Derived.Laws.BytesString
set_option linter.all false
namespace Go.Proofs.YtboocdbmnfjomaaGreat
open Go
theorem Ha {m n:Nat}(h:m≠n):nqb m n=false:=by
 cases hb:nqb m n with
 |false=>rfl| true=>exact absurd (y5 hb) h
theorem Vs {t:Nat}{x:Ty}(h:ty t=x)(hx:x≠.no):vN Pg t=x:=by rcases Mh t with h1|h1;{exact absurd (h1 ▸ h).symm hx};{exact h1.trans h}
theorem aY (P:Program)(i:TypeInfo)(fs:Array Field):GX P i fs=.no\/∃ zs:Array Value,i.zero=some (.agg zs)/\(∀ f,f∈fs.toList->0<P.cellsOf f.type)/\zs.size=i.size /\ GX P i fs=.st i.size (fs.toList.map λf=>(f.offset,P.cellsOf f.type,j8 P f.type)) (zs.toList.map w7):=by unfold GX;split;{rename_i zs hz;split;{rename_i h;exact .inr ⟨zs,hz,h.1,h.2.1,rfl⟩};{exact .inl rfl}};{exact .inl rfl}
theorem Di {P:Program}{i:TypeInfo}{fs:Array Field}{n:Nat}{ff:List (Nat×Nat×Bool)}{z:List PV}(h:GX P i fs=.st n ff z):∀ f,f∈fs.toList->(P.underlying f.type).isSome=true:=by unfold GX at h;split at h;{split at h;{rename_i h';exact h'.2.2};{cases h}};{cases h}
theorem cC (P:Program)(i:TypeInfo)(e:TypeId):Ap P i e=.no\/(i.size=1/\i.zero=some (.slice none 0 0)/\∃ j zv,P.info? e=some j/\j.zero=some zv/\zv.cells.size=j.size/\0<j.size/\0<j.bytes /\ Ap P i e=.sli j.size j.bytes (zv.cells.toList.map w7)):=by unfold Ap;split;{exact .inl rfl};{rename_i hs;split;{rename_i j hz0 hj;split;{rename_i zv hz;split;{rename_i h;exact .inr ⟨by omega,hz0,j,zv,hj,hz,h.1,h.2.1,h.2.2,rfl⟩};{exact .inl rfl}};{exact .inl rfl}};{exact .inl rfl}}
theorem cE (P:Program)(i:TypeInfo)(len:Nat)(e:TypeId):AJ P i len e=.no\/∃ zs:Array Value,i.zero=some (.agg zs)/\zs.size=i.size/\i.size=len*P.cellsOf e/\1<len/\0<P.cellsOf e/\(P.underlying e).isSome=true /\ AJ P i len e=.arr len (P.cellsOf e) (j8 P e) (zs.toList.map w7):=by unfold AJ;split;{rename_i zs hz;split;{rename_i h;exact .inr ⟨zs,hz,h.1,h.2.1,h.2.2.1,h.2.2.2.1,h.2.2.2.2,rfl⟩};{exact .inl rfl}};{exact .inl rfl}
theorem aZ (i:TypeInfo)(d:TypeDesc):GY i d=.no\/∃ zv,i.zero=some zv/\i.size=1/\zv.cells=#[zv]/\GY i d=.sc (w7 zv)/\(∀ k x,w7 zv=.int k x->d=.int k)/\(w7 zv=.ff->d=.bool) /\ (match d with|.struct _=>False|.array _ _=>False|_=>True):=by unfold GY;split;{rename_i zv hz;split;{rename_i h;split;{rename_i k k' n;split;{rename_i hk;subst hk;exact .inr ⟨_,hz,h,rfl,rfl,λk x hx=>by simp[w7] at hx;rw[hx.1],λhx=>by simp[w7] at hx,trivial⟩};{exact .inl rfl}};{exact .inr ⟨_,hz,h,rfl,rfl,λk x hx=>by simp[w7] at hx,λ_=>rfl,trivial⟩};{exact .inr ⟨_,hz,h,rfl,rfl,λk x hx=>by simp[w7] at hx,λhx=>by simp[w7] at hx,trivial⟩};{exact .inr ⟨_,hz,h,rfl,rfl,λk x hx=>by simp[w7] at hx,λhx=>by simp[w7] at hx,trivial⟩};{exact .inr ⟨_,hz,h,rfl,rfl,λk x hx=>by simp[w7] at hx,λhx=>by simp[w7] at hx,trivial⟩};{exact .inr ⟨_,hz,h,rfl,rfl,λk x hx=>by simp[w7] at hx,λhx=>by simp[w7] at hx,trivial⟩};{exact .inl rfl}};{exact .inl rfl}};{exact .inl rfl}
theorem uK {t n b:Nat}{z:List PV}(h:ty t=.sli n b z):∃ i e j zv,Pg.info? t=some i/\i.size=1/\i.zero=some (.slice none 0 0)/\Pg.underlying t=some (.slice e)/\Pg.info? e=some j/\j.zero=some zv/\j.size=n/\j.bytes=b/\zv.cells.size=n/\0<n/\z=zv.cells.toList.map w7/\0<b:=by
 have h1:=Vs h (by simp);unfold vN at h1;split at h1;{rename_i i fs hi hu;rcases aY Pg i fs with e|⟨zs,_,_,_,e⟩ <;> rw[e] at h1 <;> cases h1}
 ·(rename_i i e hi hu;rcases cC Pg i e with e'|⟨hi1,hi2,j,zv,hj,hz,hs,hp,hbp,e'⟩ <;> rw[e'] at h1 <;> cases h1);exact⟨i,e,j,zv,hi,hi1,hi2,hu,hj,hz,rfl,rfl,hs,hp,rfl,hbp⟩
 {rename_i i len e hi hu;rcases cE Pg i len e with e|⟨zs,_,_,_,_,_,_,e⟩ <;> rw[e] at h1 <;> cases h1};{rename_i i d _ _ _ hi hu;rcases aZ i d with e|⟨zs,_,_,_,e,_⟩ <;> rw[e] at h1 <;> cases h1};{cases h1}
theorem Y5 {t n:Nat}{fs:List (Nat×Nat×Bool)}{z:List PV}(h:ty t=.st n fs z):∃ i fields zs,Pg.info? t=some i/\Pg.underlying t=some (.struct fields)/\i.zero=some (.agg zs)/\i.size=n/\zs.size=n /\ fs=fields.toList.map (λf=>(f.offset,Pg.cellsOf f.type,j8 Pg f.type))/\z=zs.toList.map w7/\∀ f,f∈fields.toList->0<Pg.cellsOf f.type:=by
 have h1:=Vs h (by simp);unfold vN at h1;split at h1
 ·(rename_i i fs hi hu;rcases aY Pg i fs with e|⟨zs,hz,hf,hs,e⟩ <;> rw[e] at h1 <;> cases h1);exact⟨i,fs,zs,hi,hu,hz,rfl,hs,rfl,rfl,hf⟩
 {rename_i i e hi hu;rcases cC Pg i e with e'|⟨_,_,j,zv,hj,hz,hs,hp,_,e'⟩ <;> rw[e'] at h1 <;> cases h1};{rename_i i len e hi hu;rcases cE Pg i len e with e|⟨zs,_,_,_,_,_,_,e⟩ <;> rw[e] at h1 <;> cases h1};{rename_i i d _ _ _ hi hu;rcases aZ i d with e|⟨zs,_,_,_,e,_⟩ <;> rw[e] at h1 <;> cases h1};{cases h1}
theorem RG {t n:Nat}{fs:List (Nat×Nat×Bool)}{z:List PV}(h:ty t=.st n fs z):∃ fields,Pg.underlying t=some (.struct fields)/\∀ f,f∈fields.toList->(Pg.underlying f.type).isSome=true:=by have h1:=Vs h (by simp);unfold vN at h1;split at h1;{rename_i i fs hi hu;exact⟨fs,hu,Di h1⟩};{rename_i i e hi hu;rcases cC Pg i e with e'|⟨_,_,j,zv,hj,hz,hs,hp,_,e'⟩ <;> rw[e'] at h1 <;> cases h1};{rename_i i len e hi hu;rcases cE Pg i len e with e|⟨zs,_,_,_,_,_,_,e⟩ <;> rw[e] at h1 <;> cases h1};{rename_i i d _ _ _ hi hu;rcases aZ i d with e|⟨zs,_,_,_,e,_⟩ <;> rw[e] at h1 <;> cases h1};{cases h1}
theorem iB {t len n:Nat}{ag:Bool}{z:List PV}(h:ty t=.arr len n ag z):∃ i e zs,Pg.info? t=some i/\Pg.underlying t=some (.array len e)/\i.zero=some (.agg zs)/\i.size=len*n/\zs.size=len*n/\Pg.cellsOf e=n/\j8 Pg e=ag/\1<len/\0<n/\(Pg.underlying e).isSome=true/\z=zs.toList.map w7:=by
 have h1:=Vs h (by simp);unfold vN at h1;split at h1;{rename_i i fs hi hu;rcases aY Pg i fs with e|⟨zs,_,_,_,e⟩ <;> rw[e] at h1 <;> cases h1};{rename_i i e hi hu;rcases cC Pg i e with e'|⟨_,_,j,zv,hj,hz,hs,hp,_,e'⟩ <;> rw[e'] at h1 <;> cases h1}
 ·(rename_i i len e hi hu;rcases cE Pg i len e with e'|⟨zs,hz,h2,h3,h4,h5,h6,e'⟩ <;> rw[e'] at h1 <;> cases h1);exact⟨i,e,zs,hi,hu,hz,h3,h2.trans h3,rfl,rfl,h4,h5,h6,rfl⟩
 {rename_i i d _ _ _ hi hu;rcases aZ i d with e|⟨zs,_,_,_,e,_⟩ <;> rw[e] at h1 <;> cases h1};{cases h1}
theorem Vr {t:Nat}{z:PV}(h:ty t=.sc z):∃ i d zv,Pg.info? t=some i/\Pg.underlying t=some d/\i.size=1/\i.zero=some zv/\j8 Pg t=false/\zv.cells=#[zv]/\z=w7 zv/\(∀ k x,z=.int k x->d=.int k)/\(z=.ff->d=.bool):=by
 have h1:=Vs h (by simp);unfold vN at h1;split at h1;{rename_i i fs hi hu;rcases aY Pg i fs with e|⟨zs,_,_,_,e⟩ <;> rw[e] at h1 <;> cases h1};{rename_i i e hi hu;rcases cC Pg i e with e'|⟨_,_,j,zv,hj,hz,hs,hp,_,e'⟩ <;> rw[e'] at h1 <;> cases h1};{rename_i i len e hi hu;rcases cE Pg i len e with e|⟨zs,_,_,_,_,_,_,e⟩ <;> rw[e] at h1 <;> cases h1}
 ·(rename_i i d _ _ _ hi hu;rcases aZ i d with e|⟨zv,hz,hs,hc,e,hk,hb,hd⟩ <;> rw[e] at h1 <;> cases h1);exact⟨i,d,zv,hi,hu,hs,hz,by unfold j8;rw[hu];cases d <;> first|rfl|exact hd.elim,hc,rfl,hk,hb⟩
 {cases h1}
theorem Dj (i:TypeInfo)(d:TypeDesc)(h:GY i d=.sc .nilp):∃ e,d=.pointer e:=by unfold GY at h;split at h;{split at h;{split at h;{split at h <;> cases h};{cases h};{cases h};{exact⟨_,rfl⟩};{cases h};{cases h};{cases h}};{cases h}};{cases h}
theorem RH {t:Nat}(h:ty t=.sc .nilp):∃ e,Pg.underlying t=some (.pointer e):=by have h1:=Vs h (by simp);unfold vN at h1;split at h1;{rename_i i fs hi hu;rcases aY Pg i fs with e|⟨zs,_,_,_,e⟩ <;> rw[e] at h1 <;> cases h1};{rename_i i e hi hu;rcases cC Pg i e with e'|⟨_,_,j,zv,hj,hz,hs,hp,_,e'⟩ <;> rw[e'] at h1 <;> cases h1};{rename_i i len e hi hu;rcases cE Pg i len e with e|⟨zs,_,_,_,_,_,_,e⟩ <;> rw[e] at h1 <;> cases h1};{rename_i i d _ _ _ hi hu;obtain⟨e,rfl⟩:=Dj i d h1;exact⟨e,hu⟩};{cases h1}
section inv
variable {w:World} {S:Nat->Nat->Prop} {β:Bm} {v:Value}
theorem vO {k n}(h:Rep w S β v (.int k n)):v=.int k (n ()):=by cases h with|c hf h=>cases h;rfl
theorem Zv (h:Rep w S β v .tt):v=.bool true:=by cases h with|c hf h=>cases h;rfl
theorem Zw (h:Rep w S β v .ff):v=.bool false:=by cases h with|c hf h=>cases h;rfl
theorem sG {b}(h:Rep w S β v (.bool b)):v=.bool (b ()):=by cases h with|c hf h=>generalize hd:toD (.bool b)=d at h;cases h <;> simp[toD] at hd;subst hd;rfl
theorem aQ {b}(h:Rep w S β v (.nbool b)):v=.bool (!(b ())):=by cases h with|c hf h=>generalize hd:toD (.nbool b)=d at h;cases h <;> simp[toD] at hd;simp[hd]
theorem YE {b}(h:Rep w S β v (.str b)):v=.string (b ()):=by cases h with|c hf h=>generalize hd:toD (.str b)=d at h;cases h <;> simp[toD] at hd;subst hd;rfl
theorem eZ (h:Rep w S β v .emp):∃ a,v=.slice a 0 0:=by cases h with|c hf h=>cases hf|emp a=>exact⟨a,rfl⟩
theorem eY {x:PV}(hx:jN x=true)(h:Rep w S β v x):(∃ a,v=.slice a 0 0)/\∀ {w':World} {S':Nat->Nat->Prop},Rep w' S' β v x:=by
 cases x with
 |nil=>cases h with|c hf h=>cases hf|nil=>exact⟨⟨_,rfl⟩,.nil⟩
 |emp=>cases h with|c hf h=>cases hf|emp a=>exact⟨⟨_,rfl⟩,.emp a⟩
 |_=>cases hx
theorem dG (h:Rep w S β v .nil):v=.slice none 0 0:=by cases h with|c hf h=>cases hf|nil=>rfl
theorem qZ {cs}(h:Rep w S β v (.agg cs)):∃ vs:Array Value,v=.agg vs/\vs.size=cs.length/\∀ j,j<cs.length->Rep w S β (vs.getD j undef) (cs.getD j .any):=by cases h with|c hf h=>cases hf|agg hl h=>exact⟨_,rfl,hl,h⟩
theorem dF {cs}(h:Rep w S β v (.tup cs)):∃ vs:Array Value,v=.tuple vs/\vs.size=cs.length/\∀ j,j<cs.length->Rep w S β (vs.getD j undef) (cs.getD j .any):=by cases h with|c hf h=>cases hf|tup hl h=>exact⟨_,rfl,hl,h⟩
theorem dH {f cs}(h:Rep w S β v (.fn f cs)):∃ vs:Array Value,v=.func (.func f) #[] vs/\vs.size=cs.length/\∀ j,j<cs.length->Rep w S β (vs.getD j undef) (cs.getD j .any):=by cases h with|c hf h=>cases hf|fn hl h=>exact⟨_,rfl,hl,h⟩
theorem jH {n o}(h:Rep w S β v (.ptr n o)):∃ b,β n=some b/\v=.pointer (some ⟨b,o,none⟩):=by cases h with|c hf h=>cases hf|ptr hβ=>exact⟨_,hβ,rfl⟩
theorem jA {n s i o}(h:Rep w S β v (.aptr n s i o)):∃ b,β n=some b/\v=.pointer (some ⟨b,i ()*s+o,none⟩):=by cases h with|c hf h=>cases hf|aptr hβ=>exact⟨_,hβ,rfl⟩
theorem sE {cs o}(h:Rep w S β v (.dptr cs o)):∃ (b o':Nat) (vals:Nat->Value),(∀ j,j<cs.length->S b (o'+j))/\v=.pointer (some ⟨b,o'+o,none⟩)/\yX qT cs=true /\ (∀ j,j<cs.length->w.cell? ⟨b,o'+j,none⟩=some (vals j))/\∀ j,j<cs.length->RepD w S (vals j) (toD (cs.getD j .any)):=by cases h with|c hf h=>cases hf|dptr vals hS hf hc hr=>exact⟨_,_,vals,hS,rfl,hf,hc,hr⟩
theorem uT {n s o len}(h:Rep w S β v (.osl n s o len)):(β n=none/\o ()=0/\len ()=0/\∃ a,v=.slice a 0 0) \/ ∃ b cap vs T,β n=some b/\len ()<=cap/\w.heap[b]?=some (.cells vs T (0,0))/\(o ()+cap)*s<=vs.size/\v=.slice (some ⟨b,o ()*s,none⟩) (len ()) cap:=by
 cases h with
 |c hf h=>cases hf
 |osl hβ hlc hb hsz=>exact .inr ⟨_,_,_,_,hβ,hlc,hb,hsz,rfl⟩| osl0 hβ ho hl=>exact .inl ⟨hβ,ho,hl,_,rfl⟩
theorem bB {els}(h:RepD w S v (.sl els)):(els=[]/\∃ a cap,v=.slice a 0 cap) \/ ∃ (b o cap s:Nat) (vals:Nat->Nat->Value),els≠[]/\els.length<=cap/\(∀ i j,i<els.length->j<s->S b (o+i*s+j))/\(∀ e,e∈els->e.length=s) /\ (∀ i j,i<els.length->j<s->w.cell? ⟨b,o+i*s+j,none⟩=some (vals i j)) /\ (∀ i j,i<els.length->j<s->RepD w S (vals i j) ((els.getD i []).getD j .any))/\(∀ i j,i<els.length->j<s->(vals i j).oneCell'=true)/\v=.slice (some ⟨b,o,none⟩) els.length cap:=by
 cases h with
 |sl0 a cap=>exact .inl ⟨rfl,a,cap,rfl⟩| sl vals hne hcap hS hs hc h1 hr=>exact .inr ⟨_,_,_,_,vals,hne,hcap,hS,hs,hc,hr,h1,rfl⟩
theorem pU {els}(h:Rep w S β v (.sl els)):RepD w S v (.sl (els ())):=by cases h with|c hf h=>exact h
theorem Xv {pv}(h:Rep w S β v pv)(hf:qT pv=true):RepD w S v (toD pv):=by
 cases h with
 |c hf h=>exact h| _=>simp[qT] at hf
theorem mI {pv}(h:Rep w S β v pv)(hf:iD pv=true):RepD w S v (toD pv):=by
 cases pv with
 |nil=>rw[dG h];exact .sl0 _ _| _=>exact Xv h (by simpa[iD] using hf)
theorem VG (v:Value):Rep w S β v (w7 v):=by unfold w7;split;{exact .c rfl (.int _ _)};{exact .c rfl (.bool true)};{exact .c rfl (.bool false)};{exact .c rfl (.str _)};{exact .nil};{exact .nilf};{exact .nilp};{exact .c rfl (.any _)}
theorem wI (v:Value):Rep w S β v .any:=.c rfl (.any v)
end inv
structure Cx where
 n:Nat
 b0:Bm
instance:Coe Cx Nat:=⟨Cx.n⟩
structure Sim (w0:World) (S0:Nat->Nat->Prop) (K0:Nat->Prop) (N:Cx) (τ:Nat->PV) (objs:List (Nat×Obj')) (a:Act) (w:World) (S:Nat->Nat->Prop) (β:Bm):Prop where
 dfr:a.defers=[]
 sz:a.tmps.size=N
 ld:Leads w0 S0 K0 w S
 tmp:∀ t,Rep w S β (a.tmps.getD t undef) (τ t)
 obj:ObjsAt w S β objs
 own:∀ n o b,(n,o)∈objs->Own β n o b->w0.heap.size<=b\/K0 b
 keep:∀ n o,(n,o)∈objs->1000000<=n->β n=N.b0 n
def upd (τ:Nat->PV) (d:Option Nat) (x:PV):Nat->PV :=
 match d with
 |none=>τ| some d=>λt=>if t=d then x else τ t
theorem gH (l:List (Nat×PV))(d:Nat)(x:PV)(t:Nat):zD (vQ l d x) t=if t=d then x else zD l t:=by
 induction l with
 |nil =>
  by_cases h:t=d;{subst h;simp[vQ,zD]};{have:nqb d t=false:=Ha λe=>h e.symm;simp[vQ,zD,this,h]}
 |cons p r ih =>
  obtain⟨u,v⟩:=p;by_cases hu:u=d;{subst hu;by_cases h:t=u;{subst h;simp[vQ,zD]};{have:nqb u t=false:=Ha λe=>h e.symm;simp[vQ,zD,this,h]}};{have h1:nqb u d=false:=Ha hu;by_cases h:u=t;{subst h;simp[vQ,zD,h1,hu]};{have h2:nqb u t=false:=Ha h;simp[vQ,zD,h1,h2,ih]}}
theorem xJ (ps:PS)(d:Option Nat)(x:PV):zD (put ps d x).tmps=upd (zD ps.tmps) d x:=by
 cases d with
 |none=>rfl| some d=>funext t;simp[put,upd,gH]
theorem kG (ps:PS)(d:Option Nat)(x:PV):(put ps d x).objs=ps.objs:=by cases d <;> rfl
section sim
variable {w0:World} {S0:Nat->Nat->Prop} {K0:Nat->Prop} {N:Cx} {τ:Nat->PV} {objs:List (Nat×Obj')} {a:Act} {w:World} {S:Nat->Nat->Prop} {β:Bm}
theorem Sim.put (h:Sim w0 S0 K0 N τ objs a w S β)(d:Option Nat)(hd:∀ t,d=some t->t<N){v:Value}{x:PV}(hv:Rep w S β v x):Sim w0 S0 K0 N (upd τ d x) objs (a.put d v) w S β:=by
 cases d with
 |none=>exact h| some d =>
  have hN:=hd d rfl;refine⟨h.dfr,by simpa[Act.put] using h.sz,h.ld,λt=>?_,h.obj,h.own,h.keep⟩;simp only[upd];by_cases ht:t=d
  ·(subst ht;have:t<a.tmps.size:=by rw[h.sz];exact hN);simpa[Act.put,this] using hv
  {rw[if_neg ht];have:=h.tmp t;simpa[Act.put,Array.getElem?_setIfInBounds_ne (Ne.symm ht)] using this}
theorem Sim.eval (h:Sim w0 S0 K0 N τ objs a w S β)(x:Operand):Rep w S β (a.eval x) (ev τ x):=by
 cases x with
 |tmp t=>exact h.tmp t| const v=>exact VG v| global g=>exact wI _| func f=>exact .fn rfl (λj hj=>by simp at hj)
theorem xH {l:List (Nat×Obj')}{n:Nat}{o:Obj'}(h:yK l n=some o):(n,o)∈l:=by
 induction l with
 |nil=>simp[yK] at h| cons p r ih =>
  obtain⟨u,v⟩:=p;simp only[yK] at h;cases hu:nqb u n with
  |true=>simp only[hu,cond_true,t5] at h;have:=y5 hu;subst this h;exact vH| false=>simp only[hu,cond_false] at h;exact w6 _ (ih h)
end sim
theorem jG {o:Oper}{a:Act}{w w':World}{v:Value}{Km:Act->World->Prop}{Q:Exit->Act->World->Prop} (h:(execOp a.eval o).run Pg w=.ok (.value v) w') (hk:Km (a.put o.dst v) w'):o.wp Pg a w Km Q:=by unfold Oper.wp;rw[h];exact hk
theorem YZ {o:Oper}{a:Act}{w w':World}{Km:Act->World->Prop}{Q:Exit->Act->World->Prop} (h:(execOp a.eval o).run Pg w=.ok .skip w') (hk:Km (a.put o.dst undef) w'):o.wp Pg a w Km Q:=by unfold Oper.wp;rw[h];exact hk
theorem Kf {t:TypeId}{i:TypeInfo}(h:Pg.info? t=some i)(w:World):(typeInfo t).run Pg w=.ok i w:=by simp[typeInfo,h]
theorem vZ {t:TypeId}{i:TypeInfo}(h:Pg.info? t=some i)(w:World):(sizeOf t).run Pg w=.ok i.size w:=by simp[sizeOf,Kf h]
theorem mF {t:TypeId}{i:TypeInfo}{z:Value}(h:Pg.info? t=some i)(hz:i.zero=some z)(w:World):(zeroValue t).run Pg w=.ok z w:=by simp[zeroValue,Kf h,hz]
theorem qM {t:TypeId}(h:0<Pg.cellsOf t):∃ i,Pg.info? t=some i/\i.size=Pg.cellsOf t:=by
 unfold Program.cellsOf at *;cases hi:Pg.info? t with
 |none=>grind| some i=>grind
theorem rW {t:TypeId}{d:TypeDesc}(h:Pg.underlying t=some d)(w:World):(isAgg t).run Pg w=.ok (j8 Pg t) w:=by unfold isAgg j8;simp only[Sem.run_bind,run_underlying h,Result.andThen_ok,h];cases d <;> rfl
theorem jT (b o n:Nat):(⟨b,o,none⟩:Addr).add n=⟨b,o+n,none⟩:=by grind [Addr.add]
theorem Uk {t:Nat}(h:(ty t).isNo=false):∃ i d,Pg.info? t=some i/\Pg.underlying t=some d/\i.size=(ty t).cells/\j8 Pg t=(ty t).isA:=by
 cases ht:ty t with
 |no=>grind [Ty.isNo]| sc z=>obtain⟨i,d,zv,h1,h2,h3,_,h5,_⟩:=Vr ht;exact⟨i,d,h1,h2,h3,h5⟩
 |st n fs z=>obtain⟨i,fields,zs,h1,h2,_,h4,_⟩:=Y5 ht;exact⟨i,_,h1,h2,h4,by simp[j8,h2,Ty.isA]⟩
 |arr len n ag z=>obtain⟨i,e,zs,h1,h2,_,h4,_⟩:=iB ht;exact⟨i,_,h1,h2,h4,by simp[j8,h2,Ty.isA]⟩
 |sli n b z=>obtain⟨i,e,j,zv,h1,h2,_,h3,_⟩:=uK ht;exact⟨i,_,h1,h3,h2,by simp[j8,h3,Ty.isA]⟩
theorem Uh {t:Nat}(h:(ty t).isNo=false)(ha:(ty t).isA=false):(ty t).cells=1:=by
 cases ht:ty t <;> simp[ht,Ty.isNo,Ty.isA,Ty.cells] at *
theorem JZ {t:Nat}(hno:(ty t).isNo=false){w:World}{b o:Nat}(vals:Nat->Value)(hc:∀ j,j<(ty t).cells->w.cell? ⟨b,o+j,none⟩=some (vals j)):(Instr.loadAt t (.pointer (some ⟨b,o,none⟩))).run Pg w=.ok (if (ty t).isA then .agg ((List.range (ty t).cells).map vals).toArray else vals 0) w:=by
 obtain⟨i,d,hi,hu,hs,ha⟩:=Uk hno;have hl:=run_loadCells (P:=Pg) w ⟨b,o,none⟩ (ty t).cells vals (λj hj=>by grind [jT]);cases hA:(ty t).isA with
 |true =>
  simp[Instr.loadAt,Instr.sureAddr,loadVar,rW hu,ha,hA,vZ hi,hs,hl]
 |false =>
  have h1:=Uh hno hA;have hc0:=hc 0 oM;simp only[tM] at hc0;simp[Instr.loadAt,Instr.sureAddr,loadVar,rW hu,ha,hA,hc0]
section
variable {w:World} {S:Nat->Nat->Prop} {β:Bm}
theorem Wb (cs:List PV)(off n j:Nat)(hj:j<n)(hn:off+n<=cs.length):((cs.drop off).take n).getD j .any=cs.getD (off+j) .any:=by grind
theorem aR {t:Nat}{cs:List PV}{off:Nat}{K:PV->Prop}(h:rdK (ty t) cs off K){b o:Nat}(vals:Nat->Value) (hc:∀ j,j<cs.length->w.cell? ⟨b,o+j,none⟩=some (vals j)) (hr:∀ j,j<cs.length->Rep w S β (vals j) (cs.getD j .any)):∃ pv val,K pv/\(Instr.loadAt t (.pointer (some ⟨b,o+off,none⟩))).run Pg w=.ok val w/\Rep w S β val pv:=by
 unfold rdK at h;cases hno:(ty t).isNo with
 |true=>grind| false =>
  simp only[hno,cond_false] at h;cases hle:nle (off+(ty t).cells) cs.length with
  |false=>grind| true =>
   simp only[hle,cond_true] at h;have hle:=mP hle;refine⟨_,_,h,JZ hno (λj=>vals (off+j)) (λj hj=>by grind),?_⟩;cases hA:(ty t).isA with
   |true =>
    (simp only[cond_true,if_true];refine .agg (by grind) λj hj=>?_;have hj':j<(ty t).cells:=by grind);rw[Wb _ _ _ _ hj' hle]
    simpa[hj'] using hr (off+j) oM
   |false =>
    grind [Uh]
theorem UG {cs:List PV}{vals:Nat->Value}(hf:yX qT cs=true)(hr:∀ j,j<cs.length->RepD w S (vals j) (toD (cs.getD j .any)))(j:Nat)(hj:j<cs.length):Rep w S β (vals j) (cs.getD j .any):=.c (xS rfl hf j) (hr j hj)
theorem fS:∀ (c:List PV) (j:Nat),(y7 c).getD j .any=toD (c.getD j .any)
 |[],j=>by simp[y7,toD]| x::c,0=>by simp[y7]| x::c,j+1=>by simpa[y7] using fS c j
theorem fR:∀ (c:List PV),(y7 c).length=c.length
 |[]=>rfl| x::c=>by simp[y7,fR c]
end
section
variable {w:World} {S:Nat->Nat->Prop} {β:Bm} {K:PV->Prop}
theorem ZR {v:Value}{x:PV}{A B:Unit->Prop}(hr:Rep w S β v x)(h:brV x A B):∃ b,v=.bool b/\(b=true->A ())/\(b=false->B ()):=by unfold brV at h;split at h;{grind [Zv]};{grind [Zw]};{exact⟨_,sG hr,λe=>h.t e,λe=>h.f e⟩};{exact⟨_,aQ hr,λe=>h.f (by grind),λe=>h.t (by grind)⟩};grind
theorem Nx (a b:Bool):(a == b)=decide (a=b):=by grind
theorem Nf (a b:Int):(a == b)=decide (a=b):=by grind
theorem Lb {z:Unit->Int}(h:InI64 z):IntKind.i64.wrap (z ())=z ():=IntWalk.i64_in _ ⟨h.lo,h.hi⟩
theorem sD (k:IntKind)(n:Unit->Int):Rep w S β (.int k (n ())) (.int k n):=.c rfl (.int _ _)
theorem rZ (b:Unit->Bool):Rep w S β (.bool (b ())) (.bool b):=.c rfl (.bool _)
theorem mJ (b:Unit->Bool):Rep w S β (.bool (!(b ()))) (.nbool b):=.c rfl (.bool _)
theorem n9 {k:IntKind}{z:Unit->Int}(h:arK k z K):∃ pv,K pv/\Rep w S β (.int k (k.wrap (z ()))) pv:=by unfold arK at h;split at h;{exact⟨_,h.2,by rw[Lb h.1];exact sD _ _⟩};grind [sD,nx]
theorem xG (op:BinOp)(t:TypeId)(x y:Operand)(v u:Value)(h:∀ cs,v≠.agg cs)(hn:v≠.nilIface):(eqGuard op t x y v u).run Pg w=.ok () w:=by
 unfold eqGuard;cases op <;> first
  |rfl
  |(cases v <;> first
   |(exact absurd rfl (h _))
   |(exact absurd rfl hn)
   |(cases u <;> rfl))
theorem Hj {op:BinOp}{t:TypeId}{x y:Operand}{k k':IntKind}{a b:Unit->Int}(h:Fz op k a k' b K):∃ pv val,K pv/\(binOp op t (.int k (a ())) (.int k' (b ()))).run Pg w=.ok val w/\Rep w S β val pv:=by
 unfold Fz at h;split at h
 ·(refine⟨_,_,h.2,?_,sD k (λ_=>ishl k (a ()) (b ()))⟩;have h0:¬b ()<0:=by have:=h.1.h;omega);simp[binOp,Op.shift,h0,ishl]
 ·(refine⟨_,_,h.2,?_,sD k (λ_=>ishr k (a ()) (b ()))⟩;have h0:¬b ()<0:=by have:=h.1.h;omega);simp[binOp,Op.shift,h0,ishr]
 ·rename_i op h1 h2;cases hk:HT k k' with
  |false=>grind| true =>
   (have hk':k=k':=by grind [HT]);subst hk'
   simp only[hk,cond_true] at h;split at h;{obtain⟨pv,hp,hr⟩:=n9 (w:=w) (S:=S) (β:=β) h;exact⟨pv,_,hp,by simp[binOp,Op.intArith],hr⟩};{obtain⟨pv,hp,hr⟩:=n9 (w:=w) (S:=S) (β:=β) h;exact⟨pv,_,hp,by simp[binOp,Op.intArith],hr⟩};{obtain⟨pv,hp,hr⟩:=n9 (w:=w) (S:=S) (β:=β) h;exact⟨pv,_,hp,by simp[binOp,Op.intArith],hr⟩};{refine⟨_,_,h.2,?_,sD k (λ_=>nx k (iquo (a ()) (b ())))⟩;have h0:=h.1.h;simp[binOp,Op.intDiv,h0,nx,iquo]};{refine⟨_,_,h.2,?_,sD k (λ_=>irem (a ()) (b ()))⟩;have h0:=h.1.h;simp[binOp,Op.intDiv,h0,irem]};{exact⟨_,_,h,by simp[binOp,Op.intBits,iand],sD k (λ_=>iand k (a ()) (b ()))⟩};{exact⟨_,_,h,by simp[binOp,Op.intBits,ior],sD k (λ_=>ior k (a ()) (b ()))⟩};{exact⟨_,_,h,by simp[binOp,Op.intCmp,Nf],rZ (λ_=>decide (a ()=b ()))⟩};{exact⟨_,_,h,by simp[binOp,Op.intCmp,bne,Nf],mJ (λ_=>decide (a ()=b ()))⟩};{exact⟨_,_,h,by simp[binOp,Op.intCmp],rZ (λ_=>decide (a ()<b ()))⟩};{exact⟨_,_,h,by simp[binOp,Op.intCmp],rZ (λ_=>decide (a ()<=b ()))⟩};{exact⟨_,_,h,by simp[binOp,Op.intCmp],rZ (λ_=>decide (b ()<a ()))⟩};{exact⟨_,_,h,by simp[binOp,Op.intCmp],rZ (λ_=>decide (b ()<=a ()))⟩};grind
theorem sX {v:Value}{x:PV}{b:Unit->Bool}(h:BP x=some b)(hr:Rep w S β v x):v=.bool (b ()):=by unfold BP at h;split at h;{cases h;exact Zv hr};{cases h;exact Zw hr};{cases h;exact sG hr};grind
theorem FH {v:Value}{x:PV}{f:Fld}(h:Bg x=some f)(hr:Rep w S β v x):v=f.v:=by unfold Bg at h;split at h;{cases h;exact vO hr};{split at h;{rename_i hb;cases h;exact sX hb hr};{cases h}}
theorem X3:∀ {cs:List PV} {l:List Fld},ZK cs=some l->∀ {vs:List Value},vs.length=cs.length->(∀ j,j<cs.length->Rep w S β (vs.getD j undef) (cs.getD j .any))->vs=oX l:=by
 intro cs;induction cs with
 |nil=>intro l h vs hl _;simp[ZK] at h;subst h;cases vs with
  |nil=>rfl| cons v vs=>grind
 |cons c cs ih =>
  intro l h vs hl hr;unfold ZK at h;split at h
  ·rename_i x l' hx hl';simp only[t5] at h;subst h;cases vs with
   |nil=>grind| cons v vs =>
    have h0:=FH hx (by simpa using hr 0 (by simp));have:=ih hl' (vs:=vs) (by grind) (λj hj=>by simpa using hr (j+1) (by grind));grind [oX]
  {cases h}
theorem UU {t n b:Nat}{z:List PV}{x:Operand}{els:Unit->List (List D)}{v:Value}(hty:ty t=.sli n b z)(hx:Rep w S β v (.sl els))(h:NilCmp els K):∃ pv val,K pv/\((do eqGuard .eql t x (.const (.slice none 0 0)) v (.slice none 0 0);binOp .eql t v (.slice none 0 0):Sem Value)).run Pg w=.ok val w/\Rep w S β val pv:=by
 obtain⟨inf,el,j,zv,h1,h2,h3,h4,_⟩:=uK hty;have hsl:=pU hx;obtain⟨ax,cap,hx'⟩:∃ ax cap,v=.slice ax (els ()).length cap:=by
  rcases bB hsl with⟨e0,aa,cap,hv⟩|⟨bb,oo,cap,s,vals,_,_,_,_,_,_,_,hv⟩
  all_goals grind
 have hcap0:ax=none->els ()=[]:=by
  intro e;subst e;rcases bB hsl with⟨e0,aa,cap,hv⟩|⟨bb,oo,cap,s,vals,_,_,_,_,_,_,_,hv⟩
  all_goals grind
 subst hx';refine⟨_,_,h.h ax.isNone (λe=>hcap0 (by simp_all)),?_,rZ (λ_=>ax.isNone)⟩;rw[Sem.run_bind,xG _ _ _ _ _ _ (by grind) (by grind),Result.andThen_ok];simp only[binOp];simp[Op.equal,Op.maxDepth,Lib.run_equalIn_slice_nil w 9999 t el ax (els ()).length cap 0 0 h4]
theorem UT {t n b:Nat}{z:List PV}{x:Operand}{m s:Nat}{o len:Unit->Nat}{v:Value}(hty:ty t=.sli n b z)(hx:Rep w S β v (.osl m s o len))(h:NilLen len K):∃ pv val,K pv/\((do eqGuard .eql t x (.const (.slice none 0 0)) v (.slice none 0 0);binOp .eql t v (.slice none 0 0):Sem Value)).run Pg w=.ok val w/\Rep w S β val pv:=by
 obtain⟨inf,el,j,zv,h1,h2,h3,h4,_⟩:=uK hty;obtain⟨ax,ln,cap,hx',hcap0⟩:∃ ax ln cap,v=.slice ax ln cap/\(ax=none->len ()=0):=by
  rcases uT hx with⟨_,_,e0,aa,hv⟩|⟨bb,cap,vs,T,_,_,_,_,hv⟩
  all_goals grind
 subst hx';refine⟨_,_,h.h ax.isNone (λe=>hcap0 (by simp_all)),?_,rZ (λ_=>ax.isNone)⟩;rw[Sem.run_bind,xG _ _ _ _ _ _ (by grind) (by grind),Result.andThen_ok];simp only[binOp];simp[Op.equal,Op.maxDepth,Lib.run_equalIn_slice_nil w 9999 t el ax ln cap 0 0 h4]
theorem J9 {t n b:Nat}{z:List PV}{x:Operand}(hty:ty t=.sli n b z):((do eqGuard .eql t x (.const (.slice none 0 0)) (.slice none 0 0) (.slice none 0 0);binOp .eql t (.slice none 0 0) (.slice none 0 0):Sem Value)).run Pg w=.ok (.bool true) w:=by obtain⟨inf,el,j,zv,h1,h2,h3,h4,_⟩:=uK hty;rw[Sem.run_bind,xG _ _ _ _ _ _ (by grind) (by grind),Result.andThen_ok];simp only[binOp];simp[Op.equal,Op.maxDepth,Lib.run_equalIn_slice_nil w 9999 t el none 0 0 0 0 h4]
theorem Ko {t n b:Nat}{z:List PV}{x:Operand}(hty:ty t=.sli n b z):((do eqGuard .neq t x (.const (.slice none 0 0)) (.slice none 0 0) (.slice none 0 0);binOp .neq t (.slice none 0 0) (.slice none 0 0):Sem Value)).run Pg w=.ok (.bool false) w:=by obtain⟨inf,el,j,zv,h1,h2,h3,h4,_⟩:=uK hty;rw[Sem.run_bind,xG _ _ _ _ _ _ (by grind) (by grind),Result.andThen_ok];simp only[binOp];simp[Op.equal,Op.maxDepth,Lib.run_equalIn_slice_nil w 9999 t el none 0 0 0 0 h4]
theorem Vd {t n b:Nat}{z:List PV}{x:Operand}{els:Unit->List (List D)}{v:Value}(hty:ty t=.sli n b z)(hx:Rep w S β v (.sl els))(h:NilCmp els (λv=>K (Sr v))):∃ pv val,K pv/\((do eqGuard .neq t x (.const (.slice none 0 0)) v (.slice none 0 0);binOp .neq t v (.slice none 0 0):Sem Value)).run Pg w=.ok val w/\Rep w S β val pv:=by
 obtain⟨inf,el,j,zv,h1,h2,h3,h4,_⟩:=uK hty;have hsl:=pU hx;obtain⟨ax,cap,hx'⟩:∃ ax cap,v=.slice ax (els ()).length cap:=by
  rcases bB hsl with⟨e0,aa,cap,hv⟩|⟨bb,oo,cap,s,vals,_,_,_,_,_,_,_,hv⟩
  all_goals grind
 have hcap0:ax=none->els ()=[]:=by
  intro e;subst e;rcases bB hsl with⟨e0,aa,cap,hv⟩|⟨bb,oo,cap,s,vals,_,_,_,_,_,_,_,hv⟩
  all_goals grind
 subst hx';refine⟨_,_,h.h ax.isNone (λe=>hcap0 (by simp_all)),?_,mJ (λ_=>ax.isNone)⟩;rw[Sem.run_bind,xG _ _ _ _ _ _ (by grind) (by grind),Result.andThen_ok];simp only[binOp];simp[Op.equal,Op.maxDepth,Lib.run_equalIn_slice_nil w 9999 t el ax (els ()).length cap 0 0 h4]
theorem Vb {t n b:Nat}{z:List PV}{x:Operand}{m s:Nat}{o len:Unit->Nat}{v:Value}(hty:ty t=.sli n b z)(hx:Rep w S β v (.osl m s o len))(h:NilLen len (λv=>K (Sr v))):∃ pv val,K pv/\((do eqGuard .neq t x (.const (.slice none 0 0)) v (.slice none 0 0);binOp .neq t v (.slice none 0 0):Sem Value)).run Pg w=.ok val w/\Rep w S β val pv:=by
 obtain⟨inf,el,j,zv,h1,h2,h3,h4,_⟩:=uK hty;obtain⟨ax,ln,cap,hx',hcap0⟩:∃ ax ln cap,v=.slice ax ln cap/\(ax=none->len ()=0):=by
  rcases uT hx with⟨_,_,e0,aa,hv⟩|⟨bb,cap,vs,T,_,_,_,_,hv⟩
  all_goals grind
 subst hx';refine⟨_,_,h.h ax.isNone (λe=>hcap0 (by simp_all)),?_,mJ (λ_=>ax.isNone)⟩;rw[Sem.run_bind,xG _ _ _ _ _ _ (by grind) (by grind),Result.andThen_ok];simp only[binOp];simp[Op.equal,Op.maxDepth,Lib.run_equalIn_slice_nil w 9999 t el ax ln cap 0 0 h4]
theorem JF {op:BinOp}{t:TypeId}{a b:Unit->ByteArray}(h:G3 op a b K):∃ pv val,K pv/\(binOp op t (.string (a ())) (.string (b ()))).run Pg w=.ok val w/\Rep w S β val pv:=by
 unfold G3 at h;split at h
 ·refine⟨_,.string (a ()++b ()),h.2,?_,.c rfl (.str _)⟩;have h0:¬((((a ()).size+(b ()).size:Nat):Int) > IntKind.i64.max):=by
   (have:=h.1.h;have e:IntKind.i64.max=9223372036854775807:=by decide);omega
  simp only[binOp,Op.stringOp];simp_all
 {exact⟨_,_,h,by simp[binOp,Op.stringOp,Sem.run_pure],rZ (λ_=>(a ()).toList == (b ()).toList)⟩};{exact⟨_,_,h,by simp[binOp,Op.stringOp,Sem.run_pure],mJ (λ_=>(a ()).toList == (b ()).toList)⟩};grind
theorem rX (w:World)(d:Nat)(t e:TypeId)(a b:Option Addr)(hu:Pg.underlying t=some (.pointer e))(h:(a.isNone || b.isNone)=true):(Op.equalIn (d+1) t (.pointer a) (.pointer b)).run Pg w=.ok (a.isNone&&b.isNone) w:=by cases a <;> cases b <;> simp at h <;> simp[Op.equalIn,run_underlying hu]
theorem aJ {x:PV}{v:Value}{a:Bool}(h:Hh x=some a)(hx:Rep w S β v x):∃ p,v=.pointer p/\p.isNone=a:=by
 cases x with
 |nilp=>cases h;cases hx with|c hf h=>cases hf|nilp=>grind
 |ptr n o=>cases h;obtain⟨b,_,rfl⟩:=jH hx;grind
 |_=>cases h
theorem Hu {op:BinOp}{t:TypeId}{ox oy:Operand}{x y:PV}{v u:Value}(hoy:∀ c,oy=.const c->u=c)(hx:Rep w S β v x)(hy:Rep w S β u y)(h:FY op t ox oy x y K):∃ pv val,K pv/\((do eqGuard op t ox oy v u;binOp op t v u:Sem Value)).run Pg w=.ok val w/\Rep w S β val pv:=by
 unfold FY at h;split at h;{rename_i k a k' b;have e1:=vO hx;have e2:=vO hy;subst e1 e2;obtain⟨pv,val,h1,h2,h3⟩:=Hj (w:=w) (S:=S) (β:=β) (t:=t) (x:=ox) (y:=oy) h;exact⟨pv,val,h1,by simp[xG,h2],h3⟩};{rename_i a b;have e1:=YE hx;have e2:=YE hy;subst e1 e2;obtain⟨pv,val,h1,h2,h3⟩:=JF (w:=w) (S:=S) (β:=β) (t:=t) h;exact⟨pv,val,h1,by simp[xG,h2],h3⟩}
 ·rename_i l m;split at h
  ·(rename_i a b ha hb;obtain⟨vs,rfl,hl1,hr1⟩:=qZ hx;obtain⟨us,rfl,hl2,hr2⟩:=qZ hy;have e1:vs=(oX a).toArray:=by have:=X3 ha (vs:=vs.toList) oM (λj hj=>by simpa using hr1 j hj);grind);have e2:us=(oX b).toArray:=by have:=X3 hb (vs:=us.toList) oM (λj hj=>by simpa using hr2 j hj);grind
   obtain⟨r,h1,h2⟩:=h.h;grind [rZ]
  grind
 ·split at h
  ·(rename_i hty;have hu:Pg.underlying t=some .bool:=by obtain⟨i,d,zv,h1,h2,h3,h4,h5,h6,h7,h8,h9⟩:=Vr hty;grind);split at h
   {rename_i a b ha hb;have e1:=sX ha hx;have e2:=sX hb hy;subst e1 e2;refine⟨_,_,h,?_,rZ (λ_=>decide (a ()=b ()))⟩;simp[xG,binOp,Op.equal,Op.maxDepth,run_equalIn_bool' w 9999 t _ _ hu,Nx]};{rename_i a b ha hb;have e1:=sX ha hx;have e2:=sX hb hy;subst e1 e2;refine⟨_,_,h,?_,mJ (λ_=>decide (a ()=b ()))⟩;simp[xG,binOp,Op.equal,Op.maxDepth,run_equalIn_bool' w 9999 t _ _ hu,Nx]};grind
  ·rename_i hty;obtain⟨e,hu⟩:=RH hty;split at h
   ·rename_i a b ha hb;obtain⟨va,rfl,e1⟩:=aJ ha hx;obtain⟨vb,rfl,e2⟩:=aJ hb hy;cases hab:a || b with
    |false=>grind| true =>
     simp only[hab] at h;refine⟨_,_,h,?_,rZ (λ_=>a&&b)⟩;subst e1 e2;simp[xG,binOp,Op.equal,Op.maxDepth,rX w 9999 t e _ _ hu hab]
   ·rename_i a b ha hb;obtain⟨va,rfl,e1⟩:=aJ ha hx;obtain⟨vb,rfl,e2⟩:=aJ hb hy;cases hab:a || b with
    |false=>grind| true =>
     simp only[hab] at h;refine⟨_,_,h,?_,mJ (λ_=>a&&b)⟩;subst e1 e2;simp[xG,binOp,Op.equal,Op.maxDepth,rX w 9999 t e _ _ hu hab]
   grind
  grind
theorem Wh {t n:Nat}{fs:List (Nat×Nat×Bool)}{z:List PV}(ht:ty t=.st n fs z){i off sz:Nat}{ag:Bool}(hi:fs[i]?=some (off,sz,ag)):∃ (fields:Array Field) (f:Field),Pg.underlying t=some (.struct fields)/\fields[i]?=some f/\f.offset=off/\Pg.cellsOf f.type=sz/\j8 Pg f.type=ag/\0<sz:=by obtain⟨inf,fields,zs,h1,h2,_,_,_,hfs,_,hpos⟩:=Y5 ht;grind
theorem bH {t n:Nat}{fs:List (Nat×Nat×Bool)}{z:List PV}(ht:ty t=.st n fs z){i off sz:Nat}{ag:Bool}(hi:fs[i]?=some (off,sz,ag))(b o:Nat):(Instr.fieldAt t (.pointer (some ⟨b,o,none⟩)) i).run Pg w=.ok (.pointer (some ⟨b,o+off,none⟩)) w:=by
 obtain⟨fields,f,hu,hf,hoff,hsz,_,hp⟩:=Wh ht hi;obtain⟨inf,h1,h2⟩:=qM (t:=f.type) oM;have h3:inf.size≠0:=by omega
 simp[Instr.fieldAt,run_underlying hu,hf,Instr.sureAddr,fieldPlace,vZ h1,h3,jT,hoff]
theorem rE {t e:Nat}{j:TypeInfo}(hu:Pg.underlying t=some (.slice e))(hj:Pg.info? e=some j)(b o len cap:Nat)(k:IntKind)(i:Int)(h0:0<=i)(h1:i<(len:Int)):(Instr.indexAt t (.slice (some ⟨b,o,none⟩) len cap) (.int k i)).run Pg w=.ok (.pointer (some ⟨b,o+i.toNat*j.size,none⟩)) w:=by simp[Instr.indexAt,asIntOf,run_underlying hu,h0,h1,vZ hj,jT]
theorem eT {t e len:Nat}{j:TypeInfo}(hu:Pg.underlying t=some (.array len e))(hj:Pg.info? e=some j)(b o:Nat)(k:IntKind)(i:Int)(h0:0<=i)(h1:i<(len:Int)):(Instr.indexAt t (.pointer (some ⟨b,o,none⟩)) (.int k i)).run Pg w=.ok (.pointer (some ⟨b,o+i.toNat*j.size,none⟩)) w:=by simp[Instr.indexAt,asIntOf,run_underlying hu,h0,h1,vZ hj,jT,Instr.sureAddr]
theorem Yt {t e:Nat}(hu:Pg.underlying t=some (.slice e))(x:Value)(lo hi:Option Value):(Instr.sliceAt t x lo hi none).run Pg w=(Instr.slice t x lo hi none).run Pg w:=by simp[Instr.sliceAt,run_underlying hu]
end
end Go.Proofs.YtboocdbmnfjomaaGreat
