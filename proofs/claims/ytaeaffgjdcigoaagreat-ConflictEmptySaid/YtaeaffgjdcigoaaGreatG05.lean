/- A part of the proof: PmD, PmE, PmF, PmG. -/
import Derived.Test.YtaeaffgjdcigoaaGreatG04
import Derived.Laws.BytesString
set_option linter.all false
namespace Go.Proofs.YtaeaffgjdcigoaaGreat
open Go
theorem H4 {m n:Nat}(h:m≠n):nqb m n=false:=by
 cases hb:nqb m n with
 |false=>rfl| true=>exact absurd (xC hb) h
theorem V3 {t:Nat}{x:Ty}(h:ty t=x)(hx:x≠.no):vF Pg t=x:=by rcases NO t with h1|h1;{exact absurd (h1 ▸ h).symm hx};{exact h1.trans h}
theorem aT (P:Program)(i:TypeInfo)(fs:Array Field):Dh P i fs=.no\/∃ zs:Array Value,i.zero=some (.agg zs)/\(∀ f,f∈fs.toList->0<P.cellsOf f.type)/\zs.size=i.size /\ Dh P i fs=.st i.size (fs.toList.map λf=>(f.offset,P.cellsOf f.type,j4 P f.type)) (zs.toList.map wP):=by unfold Dh;split;{rename_i zs hz;split;{rename_i h;exact .inr ⟨zs,hz,h.1,h.2.1,rfl⟩};{exact .inl rfl}};{exact .inl rfl}
theorem Cr {P:Program}{i:TypeInfo}{fs:Array Field}{n:Nat}{ff:List (Nat×Nat×Bool)}{z:List PV}(h:Dh P i fs=.st n ff z):∀ f,f∈fs.toList->(P.underlying f.type).isSome=true:=by unfold Dh at h;split at h;{split at h;{rename_i h';exact h'.2.2};{cases h}};{cases h}
theorem dP (P:Program)(i:TypeInfo)(e:TypeId):Ss P i e=.no\/(i.size=1/\i.zero=some (.slice none 0 0)/\∃ j zv,P.info? e=some j/\j.zero=some zv/\zv.cells.size=j.size/\0<j.size/\0<j.bytes /\ Ss P i e=.sli j.size j.bytes (zv.cells.toList.map wP)):=by unfold Ss;split;{exact .inl rfl};{rename_i hs;split;{rename_i j hz0 hj;split;{rename_i zv hz;split;{rename_i h;exact .inr ⟨by omega,hz0,j,zv,hj,hz,h.1,h.2.1,h.2.2,rfl⟩};{exact .inl rfl}};{exact .inl rfl}};{exact .inl rfl}}
theorem dQ (P:Program)(i:TypeInfo)(len:Nat)(e:TypeId):SV P i len e=.no\/∃ zs:Array Value,i.zero=some (.agg zs)/\zs.size=i.size/\i.size=len*P.cellsOf e/\1<len/\0<P.cellsOf e/\(P.underlying e).isSome=true /\ SV P i len e=.arr len (P.cellsOf e) (j4 P e) (zs.toList.map wP):=by unfold SV;split;{rename_i zs hz;split;{rename_i h;exact .inr ⟨zs,hz,h.1,h.2.1,h.2.2.1,h.2.2.2.1,h.2.2.2.2,rfl⟩};{exact .inl rfl}};{exact .inl rfl}
theorem aU (i:TypeInfo)(d:TypeDesc):Di i d=.no\/∃ zv,i.zero=some zv/\i.size=1/\zv.cells=#[zv]/\Di i d=.sc (wP zv)/\(∀ k x,wP zv=.int k x->d=.int k)/\(wP zv=.ff->d=.bool) /\ (match d with|.struct _=>False|.array _ _=>False|_=>True):=by unfold Di;split;{rename_i zv hz;split;{rename_i h;split;{rename_i k k' n;split;{rename_i hk;subst hk;exact .inr ⟨_,hz,h,rfl,rfl,λk x hx=>by simp[wP] at hx;rw[hx.1],λhx=>by simp[wP] at hx,trivial⟩};{exact .inl rfl}};{exact .inr ⟨_,hz,h,rfl,rfl,λk x hx=>by simp[wP] at hx,λ_=>rfl,trivial⟩};{exact .inr ⟨_,hz,h,rfl,rfl,λk x hx=>by simp[wP] at hx,λhx=>by simp[wP] at hx,trivial⟩};{exact .inr ⟨_,hz,h,rfl,rfl,λk x hx=>by simp[wP] at hx,λhx=>by simp[wP] at hx,trivial⟩};{exact .inr ⟨_,hz,h,rfl,rfl,λk x hx=>by simp[wP] at hx,λhx=>by simp[wP] at hx,trivial⟩};{exact .inr ⟨_,hz,h,rfl,rfl,λk x hx=>by simp[wP] at hx,λhx=>by simp[wP] at hx,trivial⟩};{exact .inl rfl}};{exact .inl rfl}};{exact .inl rfl}
theorem qU {t n b:Nat}{z:List PV}(h:ty t=.sli n b z):∃ i e j zv,Pg.info? t=some i/\i.size=1/\i.zero=some (.slice none 0 0)/\Pg.underlying t=some (.slice e)/\Pg.info? e=some j/\j.zero=some zv/\j.size=n/\j.bytes=b/\zv.cells.size=n/\0<n/\z=zv.cells.toList.map wP/\0<b:=by
 have h1:=V3 h (by simp);unfold vF at h1;split at h1;{rename_i i fs hi hu;rcases aT Pg i fs with e|⟨zs,_,_,_,e⟩ <;> rw[e] at h1 <;> cases h1}
 ·(rename_i i e hi hu;rcases dP Pg i e with e'|⟨hi1,hi2,j,zv,hj,hz,hs,hp,hbp,e'⟩ <;> rw[e'] at h1 <;> cases h1);exact⟨i,e,j,zv,hi,hi1,hi2,hu,hj,hz,rfl,rfl,hs,hp,rfl,hbp⟩
 {rename_i i len e hi hu;rcases dQ Pg i len e with e|⟨zs,_,_,_,_,_,_,e⟩ <;> rw[e] at h1 <;> cases h1};{rename_i i d _ _ _ hi hu;rcases aU i d with e|⟨zs,_,_,_,e,_⟩ <;> rw[e] at h1 <;> cases h1};{cases h1}
theorem Xr {t n:Nat}{fs:List (Nat×Nat×Bool)}{z:List PV}(h:ty t=.st n fs z):∃ i fields zs,Pg.info? t=some i/\Pg.underlying t=some (.struct fields)/\i.zero=some (.agg zs)/\i.size=n/\zs.size=n /\ fs=fields.toList.map (λf=>(f.offset,Pg.cellsOf f.type,j4 Pg f.type))/\z=zs.toList.map wP/\∀ f,f∈fields.toList->0<Pg.cellsOf f.type:=by
 have h1:=V3 h (by simp);unfold vF at h1;split at h1
 ·(rename_i i fs hi hu;rcases aT Pg i fs with e|⟨zs,hz,hf,hs,e⟩ <;> rw[e] at h1 <;> cases h1);exact⟨i,fs,zs,hi,hu,hz,rfl,hs,rfl,rfl,hf⟩
 {rename_i i e hi hu;rcases dP Pg i e with e'|⟨_,_,j,zv,hj,hz,hs,hp,_,e'⟩ <;> rw[e'] at h1 <;> cases h1};{rename_i i len e hi hu;rcases dQ Pg i len e with e|⟨zs,_,_,_,_,_,_,e⟩ <;> rw[e] at h1 <;> cases h1};{rename_i i d _ _ _ hi hu;rcases aU i d with e|⟨zs,_,_,_,e,_⟩ <;> rw[e] at h1 <;> cases h1};{cases h1}
theorem Tn {t n:Nat}{fs:List (Nat×Nat×Bool)}{z:List PV}(h:ty t=.st n fs z):∃ fields,Pg.underlying t=some (.struct fields)/\∀ f,f∈fields.toList->(Pg.underlying f.type).isSome=true:=by have h1:=V3 h (by simp);unfold vF at h1;split at h1;{rename_i i fs hi hu;exact⟨fs,hu,Cr h1⟩};{rename_i i e hi hu;rcases dP Pg i e with e'|⟨_,_,j,zv,hj,hz,hs,hp,_,e'⟩ <;> rw[e'] at h1 <;> cases h1};{rename_i i len e hi hu;rcases dQ Pg i len e with e|⟨zs,_,_,_,_,_,_,e⟩ <;> rw[e] at h1 <;> cases h1};{rename_i i d _ _ _ hi hu;rcases aU i d with e|⟨zs,_,_,_,e,_⟩ <;> rw[e] at h1 <;> cases h1};{cases h1}
theorem iW {t len n:Nat}{ag:Bool}{z:List PV}(h:ty t=.arr len n ag z):∃ i e zs,Pg.info? t=some i/\Pg.underlying t=some (.array len e)/\i.zero=some (.agg zs)/\i.size=len*n/\zs.size=len*n/\Pg.cellsOf e=n/\j4 Pg e=ag/\1<len/\0<n/\(Pg.underlying e).isSome=true/\z=zs.toList.map wP:=by
 have h1:=V3 h (by simp);unfold vF at h1;split at h1;{rename_i i fs hi hu;rcases aT Pg i fs with e|⟨zs,_,_,_,e⟩ <;> rw[e] at h1 <;> cases h1};{rename_i i e hi hu;rcases dP Pg i e with e'|⟨_,_,j,zv,hj,hz,hs,hp,_,e'⟩ <;> rw[e'] at h1 <;> cases h1}
 ·(rename_i i len e hi hu;rcases dQ Pg i len e with e'|⟨zs,hz,h2,h3,h4,h5,h6,e'⟩ <;> rw[e'] at h1 <;> cases h1);exact⟨i,e,zs,hi,hu,hz,h3,h2.trans h3,rfl,rfl,h4,h5,h6,rfl⟩
 {rename_i i d _ _ _ hi hu;rcases aU i d with e|⟨zs,_,_,_,e,_⟩ <;> rw[e] at h1 <;> cases h1};{cases h1}
theorem Xs {t:Nat}{z:PV}(h:ty t=.sc z):∃ i d zv,Pg.info? t=some i/\Pg.underlying t=some d/\i.size=1/\i.zero=some zv/\j4 Pg t=false/\zv.cells=#[zv]/\z=wP zv/\(∀ k x,z=.int k x->d=.int k)/\(z=.ff->d=.bool):=by
 have h1:=V3 h (by simp);unfold vF at h1;split at h1;{rename_i i fs hi hu;rcases aT Pg i fs with e|⟨zs,_,_,_,e⟩ <;> rw[e] at h1 <;> cases h1};{rename_i i e hi hu;rcases dP Pg i e with e'|⟨_,_,j,zv,hj,hz,hs,hp,_,e'⟩ <;> rw[e'] at h1 <;> cases h1};{rename_i i len e hi hu;rcases dQ Pg i len e with e|⟨zs,_,_,_,_,_,_,e⟩ <;> rw[e] at h1 <;> cases h1}
 ·(rename_i i d _ _ _ hi hu;rcases aU i d with e|⟨zv,hz,hs,hc,e,hk,hb,hd⟩ <;> rw[e] at h1 <;> cases h1);exact⟨i,d,zv,hi,hu,hs,hz,by unfold j4;rw[hu];cases d <;> first|rfl|exact hd.elim,hc,rfl,hk,hb⟩
 {cases h1}
theorem Ct (i:TypeInfo)(d:TypeDesc)(h:Di i d=.sc .nilp):∃ e,d=.pointer e:=by unfold Di at h;split at h;{split at h;{split at h;{split at h <;> cases h};{cases h};{cases h};{exact⟨_,rfl⟩};{cases h};{cases h};{cases h}};{cases h}};{cases h}
theorem Tp {t:Nat}(h:ty t=.sc .nilp):∃ e,Pg.underlying t=some (.pointer e):=by have h1:=V3 h (by simp);unfold vF at h1;split at h1;{rename_i i fs hi hu;rcases aT Pg i fs with e|⟨zs,_,_,_,e⟩ <;> rw[e] at h1 <;> cases h1};{rename_i i e hi hu;rcases dP Pg i e with e'|⟨_,_,j,zv,hj,hz,hs,hp,_,e'⟩ <;> rw[e'] at h1 <;> cases h1};{rename_i i len e hi hu;rcases dQ Pg i len e with e|⟨zs,_,_,_,_,_,_,e⟩ <;> rw[e] at h1 <;> cases h1};{rename_i i d _ _ _ hi hu;obtain⟨e,rfl⟩:=Ct i d h1;exact⟨e,hu⟩};{cases h1}
section inv
variable {w:World} {S:Nat->Nat->Prop} {β:Bm} {v:Value}
theorem vS {k n}(h:Rep w S β v (.int k n)):v=.int k (n ()):=by cases h with|c hf h=>cases h;rfl
theorem i7 (h:Rep w S β v .tt):v=.bool true:=by cases h with|c hf h=>cases h;rfl
theorem ZS (h:Rep w S β v .ff):v=.bool false:=by cases h with|c hf h=>cases h;rfl
theorem sE {b}(h:Rep w S β v (.bool b)):v=.bool (b ()):=by cases h with|c hf h=>generalize hd:toD (.bool b)=d at h;cases h <;> simp[toD] at hd;subst hd;rfl
theorem aL {b}(h:Rep w S β v (.nbool b)):v=.bool (!(b ())):=by cases h with|c hf h=>generalize hd:toD (.nbool b)=d at h;cases h <;> simp[toD] at hd;simp[hd]
theorem YY {b}(h:Rep w S β v (.str b)):v=.string (b ()):=by cases h with|c hf h=>generalize hd:toD (.str b)=d at h;cases h <;> simp[toD] at hd;subst hd;rfl
theorem oU (h:Rep w S β v .emp):∃ a,v=.slice a 0 0:=by cases h with|c hf h=>cases hf|emp a=>exact⟨a,rfl⟩
theorem oT {x:PV}(hx:jK x=true)(h:Rep w S β v x):(∃ a,v=.slice a 0 0)/\∀ {w':World} {S':Nat->Nat->Prop},Rep w' S' β v x:=by
 cases x with
 |nil=>cases h with|c hf h=>cases hf|nil=>exact⟨⟨_,rfl⟩,.nil⟩
 |emp=>cases h with|c hf h=>cases hf|emp a=>exact⟨⟨_,rfl⟩,.emp a⟩
 |_=>cases hx
theorem fR (h:Rep w S β v .nil):v=.slice none 0 0:=by cases h with|c hf h=>cases hf|nil=>rfl
theorem qR {cs}(h:Rep w S β v (.agg cs)):∃ vs:Array Value,v=.agg vs/\vs.size=cs.length/\∀ j,j<cs.length->Rep w S β (vs.getD j undef) (cs.getD j .any):=by cases h with|c hf h=>cases hf|agg hl h=>exact⟨_,rfl,hl,h⟩
theorem fQ {cs}(h:Rep w S β v (.tup cs)):∃ vs:Array Value,v=.tuple vs/\vs.size=cs.length/\∀ j,j<cs.length->Rep w S β (vs.getD j undef) (cs.getD j .any):=by cases h with|c hf h=>cases hf|tup hl h=>exact⟨_,rfl,hl,h⟩
theorem gP {f cs}(h:Rep w S β v (.fn f cs)):∃ vs:Array Value,v=.func (.func f) #[] vs/\vs.size=cs.length/\∀ j,j<cs.length->Rep w S β (vs.getD j undef) (cs.getD j .any):=by cases h with|c hf h=>cases hf|fn hl h=>exact⟨_,rfl,hl,h⟩
theorem kF {n o}(h:Rep w S β v (.ptr n o)):∃ b,β n=some b/\v=.pointer (some ⟨b,o,none⟩):=by cases h with|c hf h=>cases hf|ptr hβ=>exact⟨_,hβ,rfl⟩
theorem lC {n}(h:Rep w S β v (.mpv n)):∃ b,β n=some b/\v=.map (some b):=by cases h with|c hf h=>cases hf|mpv hβ=>exact⟨_,hβ,rfl⟩
theorem jG {n s i o}(h:Rep w S β v (.aptr n s i o)):∃ b,β n=some b/\v=.pointer (some ⟨b,i ()*s+o,none⟩):=by cases h with|c hf h=>cases hf|aptr hβ=>exact⟨_,hβ,rfl⟩
theorem sC {cs o}(h:Rep w S β v (.dptr cs o)):∃ (b o':Nat) (vals:Nat->Value),(∀ j,j<cs.length->S b (o'+j))/\v=.pointer (some ⟨b,o'+o,none⟩)/\yS qZ cs=true /\ (∀ j,j<cs.length->w.cell? ⟨b,o'+j,none⟩=some (vals j))/\∀ j,j<cs.length->RepD w S (vals j) (toD (cs.getD j .any)):=by cases h with|c hf h=>cases hf|dptr vals hS hf hc hr=>exact⟨_,_,vals,hS,rfl,hf,hc,hr⟩
theorem gL {n s o len}(h:Rep w S β v (.osl n s o len)):(β n=none/\o ()=0/\len ()=0/\∃ a,v=.slice a 0 0) \/ ∃ b cap vs T,β n=some b/\len ()<=cap/\w.heap[b]?=some (.cells vs T (0,0))/\(o ()+cap)*s<=vs.size/\v=.slice (some ⟨b,o ()*s,none⟩) (len ()) cap:=by
 cases h with
 |c hf h=>cases hf
 |osl hβ hlc hb hsz=>exact .inr ⟨_,_,_,_,hβ,hlc,hb,hsz,rfl⟩| osl0 hβ ho hl=>exact .inl ⟨hβ,ho,hl,_,rfl⟩
theorem fS {els}(h:RepD w S v (.sl els)):(els=[]/\∃ a cap,v=.slice a 0 cap) \/ ∃ (b o cap s:Nat) (vals:Nat->Nat->Value),els≠[]/\els.length<=cap/\(∀ i j,i<els.length->j<s->S b (o+i*s+j))/\(∀ e,e∈els->e.length=s) /\ (∀ i j,i<els.length->j<s->w.cell? ⟨b,o+i*s+j,none⟩=some (vals i j)) /\ (∀ i j,i<els.length->j<s->RepD w S (vals i j) ((els.getD i []).getD j .any))/\(∀ i j,i<els.length->j<s->(vals i j).oneCell'=true)/\v=.slice (some ⟨b,o,none⟩) els.length cap:=by
 cases h with
 |sl0 a cap=>exact .inl ⟨rfl,a,cap,rfl⟩| sl vals hne hcap hS hs hc h1 hr=>exact .inr ⟨_,_,_,_,vals,hne,hcap,hS,hs,hc,hr,h1,rfl⟩
theorem rX {els}(h:Rep w S β v (.sl els)):RepD w S v (.sl (els ())):=by cases h with|c hf h=>exact h
theorem XP {pv}(h:Rep w S β v pv)(hf:qZ pv=true):RepD w S v (toD pv):=by
 cases h with
 |c hf h=>exact h| _=>simp[qZ] at hf
theorem m0 {pv}(h:Rep w S β v pv)(hf:iY pv=true):RepD w S v (toD pv):=by
 cases pv with
 |nil=>rw[fR h];exact .sl0 _ _| _=>exact XP h (by simpa[iY] using hf)
theorem Uh (v:Value):Rep w S β v (wP v):=by unfold wP;split;{exact .c rfl (.int _ _)};{exact .c rfl (.bool true)};{exact .c rfl (.bool false)};{exact .c rfl (.str _)};{exact .nil};{exact .nilf};{exact .nilp};{exact .c rfl (.any _)}
theorem xS (v:Value):Rep w S β v .any:=.c rfl (.any v)
end inv
structure Cx where
 n:Nat
 b0:Bm
instance:Coe Cx Nat:=⟨Cx.n⟩
structure Sim (w0:World) (S0:Nat->Nat->Prop) (K0:Nat->Prop) (N:Cx) (τ:Nat->PV) (objs:List (Nat×Obj')) (a:Act) (w:World) (S:Nat->Nat->Prop) (β:Bm):Prop where
 dfr:a.defers=[]
 sz:a.tmps.size=N
 ld:Leads w0 S0 K0 w S
 tmp:∀ t,Rep w S β (a.tmps.getD t undef) (τ t)
 obj:ObjsAt w S β objs
 own:∀ n o b,(n,o)∈objs->Own β n o b->w0.heap.size<=b\/K0 b
 keep:∀ n o,(n,o)∈objs->1000000<=n->β n=N.b0 n
def upd (τ:Nat->PV) (d:Option Nat) (x:PV):Nat->PV :=
 match d with
 |none=>τ| some d=>λt=>if t=d then x else τ t
theorem bB (l:List (Nat×PV))(d:Nat)(x:PV)(t:Nat):zF (uG l d x) t=if t=d then x else zF l t:=by
 induction l with
 |nil =>
  by_cases h:t=d;{subst h;simp[uG,zF]};{have:nqb d t=false:=H4 λe=>h e.symm;simp[uG,zF,this,h]}
 |cons p r ih =>
  obtain⟨u,v⟩:=p;by_cases hu:u=d;{subst hu;by_cases h:t=u;{subst h;simp[uG,zF]};{have:nqb u t=false:=H4 λe=>h e.symm;simp[uG,zF,this,h]}};{have h1:nqb u d=false:=H4 hu;by_cases h:u=t;{subst h;simp[uG,zF,h1,hu]};{have h2:nqb u t=false:=H4 h;simp[uG,zF,h1,h2,ih]}}
theorem w7 (ps:PS)(d:Option Nat)(x:PV):zF (put ps d x).tmps=upd (zF ps.tmps) d x:=by
 cases d with
 |none=>rfl| some d=>funext t;simp[put,upd,bB]
theorem fX (ps:PS)(d:Option Nat)(x:PV):(put ps d x).objs=ps.objs:=by cases d <;> rfl
section sim
variable {w0:World} {S0:Nat->Nat->Prop} {K0:Nat->Prop} {N:Cx} {τ:Nat->PV} {objs:List (Nat×Obj')} {a:Act} {w:World} {S:Nat->Nat->Prop} {β:Bm}
theorem Sim.put (h:Sim w0 S0 K0 N τ objs a w S β)(d:Option Nat)(hd:∀ t,d=some t->t<N){v:Value}{x:PV}(hv:Rep w S β v x):Sim w0 S0 K0 N (upd τ d x) objs (a.put d v) w S β:=by
 cases d with
 |none=>exact h| some d =>
  have hN:=hd d rfl;refine⟨h.dfr,by simpa[Act.put] using h.sz,h.ld,λt=>?_,h.obj,h.own,h.keep⟩;simp only[upd];by_cases ht:t=d
  ·(subst ht;have:t<a.tmps.size:=by rw[h.sz];exact hN);simpa[Act.put,this] using hv
  {rw[if_neg ht];have:=h.tmp t;simpa[Act.put,Array.getElem?_setIfInBounds_ne (Ne.symm ht)] using this}
theorem Sim.eval (h:Sim w0 S0 K0 N τ objs a w S β)(x:Operand):Rep w S β (a.eval x) (ev τ x):=by
 cases x with
 |tmp t=>exact h.tmp t| const v=>exact Uh v| global g=>exact xS _| func f=>exact .fn rfl (λj hj=>by simp at hj)
theorem xL {l:List (Nat×Obj')}{n:Nat}{o:Obj'}(h:yO l n=some o):(n,o)∈l:=by
 induction l with
 |nil=>simp[yO] at h| cons p r ih =>
  obtain⟨u,v⟩:=p;simp only[yO] at h;cases hu:nqb u n with
  |true=>simp only[hu,cond_true,pE] at h;have:=xC hu;subst this h;exact xV| false=>simp only[hu,cond_false] at h;exact xQ _ (ih h)
end sim
theorem kT {o:Oper}{a:Act}{w w':World}{v:Value}{Km:Act->World->Prop}{Q:Exit->Act->World->Prop} (h:(execOp a.eval o).run Pg w=.ok (.value v) w') (hk:Km (a.put o.dst v) w'):o.wp Pg a w Km Q:=by unfold Oper.wp;rw[h];exact hk
theorem Xd {o:Oper}{a:Act}{w w':World}{Km:Act->World->Prop}{Q:Exit->Act->World->Prop} (h:(execOp a.eval o).run Pg w=.ok .skip w') (hk:Km (a.put o.dst undef) w'):o.wp Pg a w Km Q:=by unfold Oper.wp;rw[h];exact hk
theorem KU {t:TypeId}{i:TypeInfo}(h:Pg.info? t=some i)(w:World):(typeInfo t).run Pg w=.ok i w:=by simp[typeInfo,h]
theorem uE {t:TypeId}{i:TypeInfo}(h:Pg.info? t=some i)(w:World):(sizeOf t).run Pg w=.ok i.size w:=by simp[sizeOf,KU h]
theorem pJ {t:TypeId}{i:TypeInfo}{z:Value}(h:Pg.info? t=some i)(hz:i.zero=some z)(w:World):(zeroValue t).run Pg w=.ok z w:=by simp[zeroValue,KU h,hz]
theorem qM {t:TypeId}(h:0<Pg.cellsOf t):∃ i,Pg.info? t=some i/\i.size=Pg.cellsOf t:=by
 unfold Program.cellsOf at *;cases hi:Pg.info? t with
 |none=>grind| some i=>grind
theorem pK {t:TypeId}{d:TypeDesc}(h:Pg.underlying t=some d)(w:World):(isAgg t).run Pg w=.ok (j4 Pg t) w:=by unfold isAgg j4;simp only[Sem.run_bind,run_underlying h,Result.andThen_ok,h];cases d <;> rfl
theorem gJ (b o n:Nat):(⟨b,o,none⟩:Addr).add n=⟨b,o+n,none⟩:=by grind [Addr.add]
theorem U8 {t:Nat}(h:(ty t).isNo=false):∃ i d,Pg.info? t=some i/\Pg.underlying t=some d/\i.size=(ty t).cells/\j4 Pg t=(ty t).isA:=by
 cases ht:ty t with
 |no=>grind [Ty.isNo]| sc z=>obtain⟨i,d,zv,h1,h2,h3,_,h5,_⟩:=Xs ht;exact⟨i,d,h1,h2,h3,h5⟩
 |st n fs z=>obtain⟨i,fields,zs,h1,h2,_,h4,_⟩:=Xr ht;exact⟨i,_,h1,h2,h4,by simp[j4,h2,Ty.isA]⟩
 |arr len n ag z=>obtain⟨i,e,zs,h1,h2,_,h4,_⟩:=iW ht;exact⟨i,_,h1,h2,h4,by simp[j4,h2,Ty.isA]⟩
 |sli n b z=>obtain⟨i,e,j,zv,h1,h2,_,h3,_⟩:=qU ht;exact⟨i,_,h1,h3,h2,by simp[j4,h3,Ty.isA]⟩
theorem US {t:Nat}(h:(ty t).isNo=false)(ha:(ty t).isA=false):(ty t).cells=1:=by
 cases ht:ty t <;> simp[ht,Ty.isNo,Ty.isA,Ty.cells] at *
theorem HQ {t:Nat}(hno:(ty t).isNo=false){w:World}{b o:Nat}(vals:Nat->Value)(hc:∀ j,j<(ty t).cells->w.cell? ⟨b,o+j,none⟩=some (vals j)):(Instr.loadAt t (.pointer (some ⟨b,o,none⟩))).run Pg w=.ok (if (ty t).isA then .agg ((List.range (ty t).cells).map vals).toArray else vals 0) w:=by
 obtain⟨i,d,hi,hu,hs,ha⟩:=U8 hno;have hl:=run_loadCells (P:=Pg) w ⟨b,o,none⟩ (ty t).cells vals (λj hj=>by grind [gJ]);cases hA:(ty t).isA with
 |true =>
  simp[Instr.loadAt,Instr.sureAddr,loadVar,pK hu,ha,hA,uE hi,hs,hl]
 |false =>
  have h1:=US hno hA;have hc0:=hc 0 oM;simp only[VS] at hc0;simp[Instr.loadAt,Instr.sureAddr,loadVar,pK hu,ha,hA,hc0]
section
variable {w:World} {S:Nat->Nat->Prop} {β:Bm}
theorem WH (cs:List PV)(off n j:Nat)(hj:j<n)(hn:off+n<=cs.length):((cs.drop off).take n).getD j .any=cs.getD (off+j) .any:=by grind
theorem aM {t:Nat}{cs:List PV}{off:Nat}{K:PV->Prop}(h:rdK (ty t) cs off K){b o:Nat}(vals:Nat->Value) (hc:∀ j,j<cs.length->w.cell? ⟨b,o+j,none⟩=some (vals j)) (hr:∀ j,j<cs.length->Rep w S β (vals j) (cs.getD j .any)):∃ pv val,K pv/\(Instr.loadAt t (.pointer (some ⟨b,o+off,none⟩))).run Pg w=.ok val w/\Rep w S β val pv:=by
 unfold rdK at h;cases hno:(ty t).isNo with
 |true=>grind| false =>
  simp only[hno,cond_false] at h;cases hle:nle (off+(ty t).cells) cs.length with
  |false=>grind| true =>
   simp only[hle,cond_true] at h;have hle:=nF hle;refine⟨_,_,h,HQ hno (λj=>vals (off+j)) (λj hj=>by grind),?_⟩;cases hA:(ty t).isA with
   |true =>
    (simp only[cond_true,if_true];refine .agg (by grind) λj hj=>?_;have hj':j<(ty t).cells:=by grind);rw[WH _ _ _ _ hj' hle]
    simpa[hj'] using hr (off+j) oM
   |false =>
    grind [US]
theorem Qr {cs:List PV}{vals:Nat->Value}(hf:yS qZ cs=true)(hr:∀ j,j<cs.length->RepD w S (vals j) (toD (cs.getD j .any)))(j:Nat)(hj:j<cs.length):Rep w S β (vals j) (cs.getD j .any):=.c (xR rfl hf j) (hr j hj)
theorem fC:∀ (c:List PV) (j:Nat),(xE c).getD j .any=toD (c.getD j .any)
 |[],j=>by simp[xE,toD]| x::c,0=>by simp[xE]| x::c,j+1=>by simpa[xE] using fC c j
theorem g9:∀ (c:List PV),(xE c).length=c.length
 |[]=>rfl| x::c=>by simp[xE,g9 c]
end
section
variable {w:World} {S:Nat->Nat->Prop} {β:Bm} {K:PV->Prop}
theorem Ye {v:Value}{x:PV}{A B:Unit->Prop}(hr:Rep w S β v x)(h:brV x A B):∃ b,v=.bool b/\(b=true->A ())/\(b=false->B ()):=by unfold brV at h;split at h;{grind [i7]};{grind [ZS]};{exact⟨_,sE hr,λe=>h.t e,λe=>h.f e⟩};{exact⟨_,aL hr,λe=>h.f (by grind),λe=>h.t (by grind)⟩};grind
theorem Eb (a b:Bool):(a == b)=decide (a=b):=by grind
theorem LU (a b:Int):(a == b)=decide (a=b):=by grind
theorem OT {z:Unit->Int}(h:InI64 z):IntKind.i64.wrap (z ())=z ():=IntWalk.i64_in _ ⟨h.lo,h.hi⟩
theorem sB (k:IntKind)(n:Unit->Int):Rep w S β (.int k (n ())) (.int k n):=.c rfl (.int _ _)
theorem pO (b:Unit->Bool):Rep w S β (.bool (b ())) (.bool b):=.c rfl (.bool _)
theorem m8 (b:Unit->Bool):Rep w S β (.bool (!(b ()))) (.nbool b):=.c rfl (.bool _)
theorem l9 {k:IntKind}{z:Unit->Int}(h:arK k z K):∃ pv,K pv/\Rep w S β (.int k (k.wrap (z ()))) pv:=by unfold arK at h;split at h;{exact⟨_,h.2,by rw[OT h.1];exact sB _ _⟩};grind [sB,nx]
theorem y9 (op:BinOp)(t:TypeId)(x y:Operand)(v u:Value)(h:∀ cs,v≠.agg cs)(hn:v≠.nilIface):(eqGuard op t x y v u).run Pg w=.ok () w:=by
 unfold eqGuard;cases op <;> first
  |rfl
  |(cases v <;> first
   |(exact absurd rfl (h _))
   |(exact absurd rfl hn)
   |(cases u <;> rfl))
theorem Ge {op:BinOp}{t:TypeId}{x y:Operand}{k k':IntKind}{a b:Unit->Int}(h:DR op k a k' b K):∃ pv val,K pv/\(binOp op t (.int k (a ())) (.int k' (b ()))).run Pg w=.ok val w/\Rep w S β val pv:=by
 unfold DR at h;split at h
 ·(refine⟨_,_,h.2,?_,sB k (λ_=>ishl k (a ()) (b ()))⟩;have h0:¬b ()<0:=by have:=h.1.h;omega);simp[binOp,Op.shift,h0,ishl]
 ·(refine⟨_,_,h.2,?_,sB k (λ_=>ishr k (a ()) (b ()))⟩;have h0:¬b ()<0:=by have:=h.1.h;omega);simp[binOp,Op.shift,h0,ishr]
 ·rename_i op h1 h2;cases hk:GU k k' with
  |false=>grind| true =>
   (have hk':k=k':=by grind [GU]);subst hk'
   simp only[hk,cond_true] at h;split at h;{obtain⟨pv,hp,hr⟩:=l9 (w:=w) (S:=S) (β:=β) h;exact⟨pv,_,hp,by simp[binOp,Op.intArith],hr⟩};{obtain⟨pv,hp,hr⟩:=l9 (w:=w) (S:=S) (β:=β) h;exact⟨pv,_,hp,by simp[binOp,Op.intArith],hr⟩};{obtain⟨pv,hp,hr⟩:=l9 (w:=w) (S:=S) (β:=β) h;exact⟨pv,_,hp,by simp[binOp,Op.intArith],hr⟩};{refine⟨_,_,h.2,?_,sB k (λ_=>nx k (iquo (a ()) (b ())))⟩;have h0:=h.1.h;simp[binOp,Op.intDiv,h0,nx,iquo]};{refine⟨_,_,h.2,?_,sB k (λ_=>irem (a ()) (b ()))⟩;have h0:=h.1.h;simp[binOp,Op.intDiv,h0,irem]};{exact⟨_,_,h,by simp[binOp,Op.intBits,iand],sB k (λ_=>iand k (a ()) (b ()))⟩};{exact⟨_,_,h,by simp[binOp,Op.intBits,ior],sB k (λ_=>ior k (a ()) (b ()))⟩};{exact⟨_,_,h,by simp[binOp,Op.intCmp,LU],pO (λ_=>decide (a ()=b ()))⟩};{exact⟨_,_,h,by simp[binOp,Op.intCmp,bne,LU],m8 (λ_=>decide (a ()=b ()))⟩};{exact⟨_,_,h,by simp[binOp,Op.intCmp],pO (λ_=>decide (a ()<b ()))⟩};{exact⟨_,_,h,by simp[binOp,Op.intCmp],pO (λ_=>decide (a ()<=b ()))⟩};{exact⟨_,_,h,by simp[binOp,Op.intCmp],pO (λ_=>decide (b ()<a ()))⟩};{exact⟨_,_,h,by simp[binOp,Op.intCmp],pO (λ_=>decide (b ()<=a ()))⟩};grind
theorem sZ {v:Value}{x:PV}{b:Unit->Bool}(h:AW x=some b)(hr:Rep w S β v x):v=.bool (b ()):=by unfold AW at h;split at h;{cases h;exact i7 hr};{cases h;exact ZS hr};{cases h;exact sE hr};grind
theorem DW {v:Value}{x:PV}{f:Fld}(h:Ak x=some f)(hr:Rep w S β v x):v=f.v:=by unfold Ak at h;split at h;{cases h;exact vS hr};{split at h;{rename_i hb;cases h;exact sZ hb hr};{cases h}}
theorem Wy:∀ {cs:List PV} {l:List Fld},Z5 cs=some l->∀ {vs:List Value},vs.length=cs.length->(∀ j,j<cs.length->Rep w S β (vs.getD j undef) (cs.getD j .any))->vs=Zr l:=by
 intro cs;induction cs with
 |nil=>intro l h vs hl _;simp[Z5] at h;subst h;cases vs with
  |nil=>rfl| cons v vs=>grind
 |cons c cs ih =>
  intro l h vs hl hr;unfold Z5 at h;split at h
  ·rename_i x l' hx hl';simp only[pE] at h;subst h;cases vs with
   |nil=>grind| cons v vs =>
    have h0:=DW hx (by simpa using hr 0 (by simp));have:=ih hl' (vs:=vs) (by grind) (λj hj=>by simpa using hr (j+1) (by grind));grind [Zr]
  {cases h}
theorem QE {t n b:Nat}{z:List PV}{x:Operand}{els:Unit->List (List D)}{v:Value}(hty:ty t=.sli n b z)(hx:Rep w S β v (.sl els))(h:NilCmp els K):∃ pv val,K pv/\((do eqGuard .eql t x (.const (.slice none 0 0)) v (.slice none 0 0);binOp .eql t v (.slice none 0 0):Sem Value)).run Pg w=.ok val w/\Rep w S β val pv:=by
 obtain⟨inf,el,j,zv,h1,h2,h3,h4,_⟩:=qU hty;have hsl:=rX hx;obtain⟨ax,cap,hx'⟩:∃ ax cap,v=.slice ax (els ()).length cap:=by
  rcases fS hsl with⟨e0,aa,cap,hv⟩|⟨bb,oo,cap,s,vals,_,_,_,_,_,_,_,hv⟩
  all_goals grind
 have hcap0:ax=none->els ()=[]:=by
  intro e;subst e;rcases fS hsl with⟨e0,aa,cap,hv⟩|⟨bb,oo,cap,s,vals,_,_,_,_,_,_,_,hv⟩
  all_goals grind
 subst hx';refine⟨_,_,h.h ax.isNone (λe=>hcap0 (by simp_all)),?_,pO (λ_=>ax.isNone)⟩;rw[Sem.run_bind,y9 _ _ _ _ _ _ (by grind) (by grind),Result.andThen_ok];simp only[binOp];simp[Op.equal,Op.maxDepth,Lib.run_equalIn_slice_nil w 9999 t el ax (els ()).length cap 0 0 h4]
theorem QD {t n b:Nat}{z:List PV}{x:Operand}{m s:Nat}{o len:Unit->Nat}{v:Value}(hty:ty t=.sli n b z)(hx:Rep w S β v (.osl m s o len))(h:NilLen len K):∃ pv val,K pv/\((do eqGuard .eql t x (.const (.slice none 0 0)) v (.slice none 0 0);binOp .eql t v (.slice none 0 0):Sem Value)).run Pg w=.ok val w/\Rep w S β val pv:=by
 obtain⟨inf,el,j,zv,h1,h2,h3,h4,_⟩:=qU hty;obtain⟨ax,ln,cap,hx',hcap0⟩:∃ ax ln cap,v=.slice ax ln cap/\(ax=none->len ()=0):=by
  rcases gL hx with⟨_,_,e0,aa,hv⟩|⟨bb,cap,vs,T,_,_,_,_,hv⟩
  all_goals grind
 subst hx';refine⟨_,_,h.h ax.isNone (λe=>hcap0 (by simp_all)),?_,pO (λ_=>ax.isNone)⟩;rw[Sem.run_bind,y9 _ _ _ _ _ _ (by grind) (by grind),Result.andThen_ok];simp only[binOp];simp[Op.equal,Op.maxDepth,Lib.run_equalIn_slice_nil w 9999 t el ax ln cap 0 0 h4]
theorem H3 {t n b:Nat}{z:List PV}{x:Operand}(hty:ty t=.sli n b z):((do eqGuard .eql t x (.const (.slice none 0 0)) (.slice none 0 0) (.slice none 0 0);binOp .eql t (.slice none 0 0) (.slice none 0 0):Sem Value)).run Pg w=.ok (.bool true) w:=by obtain⟨inf,el,j,zv,h1,h2,h3,h4,_⟩:=qU hty;rw[Sem.run_bind,y9 _ _ _ _ _ _ (by grind) (by grind),Result.andThen_ok];simp only[binOp];simp[Op.equal,Op.maxDepth,Lib.run_equalIn_slice_nil w 9999 t el none 0 0 0 0 h4]
theorem K9 {t n b:Nat}{z:List PV}{x:Operand}(hty:ty t=.sli n b z):((do eqGuard .neq t x (.const (.slice none 0 0)) (.slice none 0 0) (.slice none 0 0);binOp .neq t (.slice none 0 0) (.slice none 0 0):Sem Value)).run Pg w=.ok (.bool false) w:=by obtain⟨inf,el,j,zv,h1,h2,h3,h4,_⟩:=qU hty;rw[Sem.run_bind,y9 _ _ _ _ _ _ (by grind) (by grind),Result.andThen_ok];simp only[binOp];simp[Op.equal,Op.maxDepth,Lib.run_equalIn_slice_nil w 9999 t el none 0 0 0 0 h4]
theorem VK {t n b:Nat}{z:List PV}{x:Operand}{els:Unit->List (List D)}{v:Value}(hty:ty t=.sli n b z)(hx:Rep w S β v (.sl els))(h:NilCmp els (λv=>K (R5 v))):∃ pv val,K pv/\((do eqGuard .neq t x (.const (.slice none 0 0)) v (.slice none 0 0);binOp .neq t v (.slice none 0 0):Sem Value)).run Pg w=.ok val w/\Rep w S β val pv:=by
 obtain⟨inf,el,j,zv,h1,h2,h3,h4,_⟩:=qU hty;have hsl:=rX hx;obtain⟨ax,cap,hx'⟩:∃ ax cap,v=.slice ax (els ()).length cap:=by
  rcases fS hsl with⟨e0,aa,cap,hv⟩|⟨bb,oo,cap,s,vals,_,_,_,_,_,_,_,hv⟩
  all_goals grind
 have hcap0:ax=none->els ()=[]:=by
  intro e;subst e;rcases fS hsl with⟨e0,aa,cap,hv⟩|⟨bb,oo,cap,s,vals,_,_,_,_,_,_,_,hv⟩
  all_goals grind
 subst hx';refine⟨_,_,h.h ax.isNone (λe=>hcap0 (by simp_all)),?_,m8 (λ_=>ax.isNone)⟩;rw[Sem.run_bind,y9 _ _ _ _ _ _ (by grind) (by grind),Result.andThen_ok];simp only[binOp];simp[Op.equal,Op.maxDepth,Lib.run_equalIn_slice_nil w 9999 t el ax (els ()).length cap 0 0 h4]
theorem VJ {t n b:Nat}{z:List PV}{x:Operand}{m s:Nat}{o len:Unit->Nat}{v:Value}(hty:ty t=.sli n b z)(hx:Rep w S β v (.osl m s o len))(h:NilLen len (λv=>K (R5 v))):∃ pv val,K pv/\((do eqGuard .neq t x (.const (.slice none 0 0)) v (.slice none 0 0);binOp .neq t v (.slice none 0 0):Sem Value)).run Pg w=.ok val w/\Rep w S β val pv:=by
 obtain⟨inf,el,j,zv,h1,h2,h3,h4,_⟩:=qU hty;obtain⟨ax,ln,cap,hx',hcap0⟩:∃ ax ln cap,v=.slice ax ln cap/\(ax=none->len ()=0):=by
  rcases gL hx with⟨_,_,e0,aa,hv⟩|⟨bb,cap,vs,T,_,_,_,_,hv⟩
  all_goals grind
 subst hx';refine⟨_,_,h.h ax.isNone (λe=>hcap0 (by simp_all)),?_,m8 (λ_=>ax.isNone)⟩;rw[Sem.run_bind,y9 _ _ _ _ _ _ (by grind) (by grind),Result.andThen_ok];simp only[binOp];simp[Op.equal,Op.maxDepth,Lib.run_equalIn_slice_nil w 9999 t el ax ln cap 0 0 h4]
theorem Hu {op:BinOp}{t:TypeId}{a b:Unit->ByteArray}(h:Dk op a b K):∃ pv val,K pv/\(binOp op t (.string (a ())) (.string (b ()))).run Pg w=.ok val w/\Rep w S β val pv:=by
 unfold Dk at h;split at h
 ·refine⟨_,.string (a ()++b ()),h.2,?_,.c rfl (.str _)⟩;have h0:¬((((a ()).size+(b ()).size:Nat):Int) > IntKind.i64.max):=by
   (have:=h.1.h;have e:IntKind.i64.max=9223372036854775807:=by decide);omega
  simp only[binOp,Op.stringOp];simp_all
 {exact⟨_,_,h,by simp[binOp,Op.stringOp,Sem.run_pure],pO (λ_=>(a ()).toList == (b ()).toList)⟩};{exact⟨_,_,h,by simp[binOp,Op.stringOp,Sem.run_pure],m8 (λ_=>(a ()).toList == (b ()).toList)⟩};grind
theorem Gq {v:Value}{ns:List Int}{els:List (List D)}(he:els=ns.map λn=>[D.int .u8 n])(h:RepD w S v (.sl els)):∃ a len cap,v=.slice a len cap/\(Conv.bytesToString (.slice a len cap)).run Pg w=.ok (.string (Xc ns)) w:=by
 rcases fS h with⟨e0,a,cap,hv⟩|⟨b,o,cap,s,vals,hne,hcap,hS,hs,hc,hr,h1,hv⟩
 ·(have hn:ns=[]:=by simp_all);subst hn
  refine⟨a,0,cap,by rw[hv],?_⟩;cases a with
  |none=>simp[Conv.bytesToString,Sem.run_pure,Xc]| some a=>exact run_bytesToString w a 0 cap [] (by simp[loadCells,loadCellsFrom,Sem.run_pure])
 ·(refine⟨some ⟨b,o,none⟩,els.length,cap,hv,run_bytesToString w ⟨b,o,none⟩ els.length cap ns ?_⟩;have hl:els.length=ns.length:=by grind);have hs1:s=1:=by
   cases hels:els with
   |nil=>grind| cons e r =>
    have:=hs e (by grind);grind
  subst hs1;have hl2:=run_loadCells (P:=Pg) w ⟨b,o,none⟩ els.length (λj=>.int .u8 (ns.getD j 0)) (λj hj=>by
   (have g:=hc j 0 hj oM;have r:=hr j 0 hj oM;have e:els.getD j []=[D.int .u8 (ns.getD j 0)]:=by grind);rw[e] at r
   (have r':RepD w S (vals j 0) (.int .u8 (ns.getD j 0)):=by grind);cases hx:vals j 0 with
   |_=>rw[hx] at r' g;cases r' <;> (grind [gJ]))
  rw[hl2];congr 1;rw[hl];congr 1;refine List.ext_getElem (by simp) λi h1 h2=>?_;grind
theorem pL (w:World)(d:Nat)(t e:TypeId)(a b:Option Addr)(hu:Pg.underlying t=some (.pointer e))(h:(a.isNone || b.isNone)=true):(Op.equalIn (d+1) t (.pointer a) (.pointer b)).run Pg w=.ok (a.isNone&&b.isNone) w:=by cases a <;> cases b <;> simp at h <;> simp[Op.equalIn,run_underlying hu]
theorem aF {x:PV}{v:Value}{a:Bool}(h:Gd x=some a)(hx:Rep w S β v x):∃ p,v=.pointer p/\p.isNone=a:=by
 cases x with
 |nilp=>cases h;cases hx with|c hf h=>cases hf|nilp=>grind
 |ptr n o=>cases h;obtain⟨b,_,rfl⟩:=kF hx;grind
 |_=>cases h
theorem Gt {op:BinOp}{t:TypeId}{ox oy:Operand}{x y:PV}{v u:Value}(hoy:∀ c,oy=.const c->u=c)(hx:Rep w S β v x)(hy:Rep w S β u y)(h:Cc op t ox oy x y K):∃ pv val,K pv/\((do eqGuard op t ox oy v u;binOp op t v u:Sem Value)).run Pg w=.ok val w/\Rep w S β val pv:=by
 unfold Cc at h;split at h;{rename_i k a k' b;have e1:=vS hx;have e2:=vS hy;subst e1 e2;obtain⟨pv,val,h1,h2,h3⟩:=Ge (w:=w) (S:=S) (β:=β) (t:=t) (x:=ox) (y:=oy) h;exact⟨pv,val,h1,by simp[y9,h2],h3⟩};{rename_i a b;have e1:=YY hx;have e2:=YY hy;subst e1 e2;obtain⟨pv,val,h1,h2,h3⟩:=Hu (w:=w) (S:=S) (β:=β) (t:=t) h;exact⟨pv,val,h1,by simp[y9,h2],h3⟩}
 ·rename_i l m;split at h
  ·(rename_i a b ha hb;obtain⟨vs,rfl,hl1,hr1⟩:=qR hx;obtain⟨us,rfl,hl2,hr2⟩:=qR hy;have e1:vs=(Zr a).toArray:=by have:=Wy ha (vs:=vs.toList) oM (λj hj=>by simpa using hr1 j hj);grind);have e2:us=(Zr b).toArray:=by have:=Wy hb (vs:=us.toList) oM (λj hj=>by simpa using hr2 j hj);grind
   obtain⟨r,h1,h2⟩:=h.h;grind [pO]
  grind
 ·split at h
  ·(rename_i hty;have hu:Pg.underlying t=some .bool:=by obtain⟨i,d,zv,h1,h2,h3,h4,h5,h6,h7,h8,h9⟩:=Xs hty;grind);split at h
   {rename_i a b ha hb;have e1:=sZ ha hx;have e2:=sZ hb hy;subst e1 e2;refine⟨_,_,h,?_,pO (λ_=>decide (a ()=b ()))⟩;simp[y9,binOp,Op.equal,Op.maxDepth,run_equalIn_bool' w 9999 t _ _ hu,Eb]};{rename_i a b ha hb;have e1:=sZ ha hx;have e2:=sZ hb hy;subst e1 e2;refine⟨_,_,h,?_,m8 (λ_=>decide (a ()=b ()))⟩;simp[y9,binOp,Op.equal,Op.maxDepth,run_equalIn_bool' w 9999 t _ _ hu,Eb]};grind
  ·rename_i hty;obtain⟨e,hu⟩:=Tp hty;split at h
   ·rename_i a b ha hb;obtain⟨va,rfl,e1⟩:=aF ha hx;obtain⟨vb,rfl,e2⟩:=aF hb hy;cases hab:a || b with
    |false=>grind| true =>
     simp only[hab] at h;refine⟨_,_,h,?_,pO (λ_=>a&&b)⟩;subst e1 e2;simp[y9,binOp,Op.equal,Op.maxDepth,pL w 9999 t e _ _ hu hab]
   ·rename_i a b ha hb;obtain⟨va,rfl,e1⟩:=aF ha hx;obtain⟨vb,rfl,e2⟩:=aF hb hy;cases hab:a || b with
    |false=>grind| true =>
     simp only[hab] at h;refine⟨_,_,h,?_,m8 (λ_=>a&&b)⟩;subst e1 e2;simp[y9,binOp,Op.equal,Op.maxDepth,pL w 9999 t e _ _ hu hab]
   grind
  grind
theorem WK {t n:Nat}{fs:List (Nat×Nat×Bool)}{z:List PV}(ht:ty t=.st n fs z){i off sz:Nat}{ag:Bool}(hi:fs[i]?=some (off,sz,ag)):∃ (fields:Array Field) (f:Field),Pg.underlying t=some (.struct fields)/\fields[i]?=some f/\f.offset=off/\Pg.cellsOf f.type=sz/\j4 Pg f.type=ag/\0<sz:=by obtain⟨inf,fields,zs,h1,h2,_,_,_,hfs,_,hpos⟩:=Xr ht;grind
theorem cY {t n:Nat}{fs:List (Nat×Nat×Bool)}{z:List PV}(ht:ty t=.st n fs z){i off sz:Nat}{ag:Bool}(hi:fs[i]?=some (off,sz,ag))(b o:Nat):(Instr.fieldAt t (.pointer (some ⟨b,o,none⟩)) i).run Pg w=.ok (.pointer (some ⟨b,o+off,none⟩)) w:=by
 obtain⟨fields,f,hu,hf,hoff,hsz,_,hp⟩:=WK ht hi;obtain⟨inf,h1,h2⟩:=qM (t:=f.type) oM;have h3:inf.size≠0:=by omega
 simp[Instr.fieldAt,run_underlying hu,hf,Instr.sureAddr,fieldPlace,uE h1,h3,gJ,hoff]
theorem rG {t e:Nat}{j:TypeInfo}(hu:Pg.underlying t=some (.slice e))(hj:Pg.info? e=some j)(b o len cap:Nat)(k:IntKind)(i:Int)(h0:0<=i)(h1:i<(len:Int)):(Instr.indexAt t (.slice (some ⟨b,o,none⟩) len cap) (.int k i)).run Pg w=.ok (.pointer (some ⟨b,o+i.toNat*j.size,none⟩)) w:=by simp[Instr.indexAt,asIntOf,run_underlying hu,h0,h1,uE hj,gJ]
theorem oP {t e len:Nat}{j:TypeInfo}(hu:Pg.underlying t=some (.array len e))(hj:Pg.info? e=some j)(b o:Nat)(k:IntKind)(i:Int)(h0:0<=i)(h1:i<(len:Int)):(Instr.indexAt t (.pointer (some ⟨b,o,none⟩)) (.int k i)).run Pg w=.ok (.pointer (some ⟨b,o+i.toNat*j.size,none⟩)) w:=by simp[Instr.indexAt,asIntOf,run_underlying hu,h0,h1,uE hj,gJ,Instr.sureAddr]
theorem YN {t e:Nat}(hu:Pg.underlying t=some (.slice e))(x:Value)(lo hi:Option Value):(Instr.sliceAt t x lo hi none).run Pg w=(Instr.slice t x lo hi none).run Pg w:=by simp[Instr.sliceAt,run_underlying hu]
end
section
variable {w:World} {S:Nat->Nat->Prop} {β:Bm} {K:PV->Prop}
theorem fH {v:Value}{x:PV}(h:Rep w S β v x)(hp:gQ x=true):v.cells.size=(yR x).length/\∀ j,j<(yR x).length->Rep w S β (v.cells.getD j undef) ((yR x).getD j .any):=by
 have one:(∀ cs,v≠.agg cs)->yR x=[x]->v.cells.size=(yR x).length/\∀ j,j<(yR x).length->Rep w S β (v.cells.getD j undef) ((yR x).getD j .any):=by
  (intro hv hx;have hc:v.cells=#[v]:=by unfold Value.cells;split <;> first|(exact absurd rfl (hv _))|rfl);simp_all
 cases x with
 |agg cs =>
  obtain⟨vs,rfl,h1,h2⟩:=qR h;exact⟨h1,h2⟩
 |int k n=>exact one (by rw[vS h];grind) rfl
 |tt=>exact one (by grind [i7]) rfl
 |ff=>exact one (by grind [ZS]) rfl
 |bool b=>exact one (by grind [sE]) rfl
 |nbool b=>exact one (by grind [aL]) rfl
 |str s=>exact one (by grind [YY]) rfl
 |nil=>have hv:=fR h;subst hv;exact one (by grind) rfl
 |sl els=>rcases fS (rX h) with⟨_,a,cap,rfl⟩|⟨b,o,cap,s,vals,_,_,_,_,_,_,_,rfl⟩ <;> exact one (by grind) rfl
 |tup vs=>grind [gQ,mO]| ptr n o=>obtain⟨b,_,rfl⟩:=kF h;exact one (by grind) rfl
 |aptr n s i o=>obtain⟨b,_,rfl⟩:=jG h;exact one (by grind) rfl
 |dptr cs o=>obtain⟨b,o',vals,_,rfl,_⟩:=sC h;exact one (by grind) rfl
 |osl n s o l=>rcases gL h with⟨_,_,_,a,rfl⟩|⟨b,cap,vs,T,_,_,_,_,rfl⟩ <;> exact one (by grind) rfl
 |fn f cs=>obtain⟨vs,rfl,_⟩:=gP h;exact one (by grind) rfl
 |nilf=>cases h with|c hf h=>cases hf|nilf=>exact one (by grind) rfl
 |nilp=>cases h with|c hf h=>cases hf|nilp=>exact one (by grind) rfl
 |mpv n=>obtain⟨b,_,rfl⟩:=lC h;exact one (by grind) rfl
 |emp=>obtain⟨a,hv⟩:=oU h;subst hv;exact one (by grind) rfl
 |any=>grind [gQ,mO]
theorem sN {v:Value}{x:PV}(h:Rep w S β v x)(hp:mO x=true):v.oneCell'=true:=by
 cases x with
 |agg cs=>grind [mO]| int k n=>rw[vS h];rfl
 |tt=>rw[i7 h];rfl
 |ff=>rw[ZS h];rfl
 |bool b=>rw[sE h];rfl
 |nbool b=>rw[aL h];rfl
 |str s=>rw[YY h];rfl
 |nil=>rw[fR h];rfl
 |sl els=>rcases fS (rX h) with⟨_,a,cap,rfl⟩|⟨b,o,cap,s,vals,_,_,_,_,_,_,_,rfl⟩ <;> rfl
 |tup vs=>grind [mO]| ptr n o=>obtain⟨b,_,rfl⟩:=kF h;rfl
 |aptr n s i o=>obtain⟨b,_,rfl⟩:=jG h;rfl
 |dptr cs o=>obtain⟨b,o',vals,_,rfl,_⟩:=sC h;rfl
 |osl n s o l=>rcases gL h with⟨_,_,_,a,rfl⟩|⟨b,cap,vs,T,_,_,_,_,rfl⟩ <;> rfl
 |fn f cs=>obtain⟨vs,rfl,_⟩:=gP h;rfl
 |nilf=>cases h with|c hf h=>cases hf|nilf=>rfl
 |nilp=>cases h with|c hf h=>cases hf|nilp=>rfl
 |mpv n=>obtain⟨b,_,rfl⟩:=lC h;rfl
 |emp=>obtain⟨a,hv⟩:=oU h;subst hv;rfl
 |any=>grind [mO]
theorem WW {x:PV}(h:Zu x=true):mO x=true:=by cases x <;> simp_all [Zu,mO,qZ]
theorem lV {x:PV}(h:Zu x=true):iY x=true:=by cases x <;> simp_all [Zu,iY,qZ]
theorem kE:∀ (cs:List PV) (n:Nat) (vs:List PV),n+vs.length<=cs.length->(uX cs n vs).length=cs.length
 |c::cs,0,v::vs,h=>by simp only[uX,bK] at *;rw[kE cs 0 vs oM]| cs,0,[],_=>by grind [uX]| [],n,v::vs,h=>by simp at h| [],n+1,[],h=>by simp at h| c::cs,n+1,vs,h=>by simp only[uX,bK] at *;rw[kE cs n vs oM]
theorem aY:∀ (cs:List PV) (n:Nat) (vs:List PV),n+vs.length<=cs.length->∀ j,(uX cs n vs).getD j .any=if n<=j/\j<n+vs.length then vs.getD (j-n) .any else cs.getD j .any
 |c::cs,0,v::vs,h,0=>by simp[uX]| c::cs,0,v::vs,h,j+1=>by have:=aY cs 0 vs (by grind) j;grind [uX]| cs,0,[],_,j=>by grind [uX]| [],n,v::vs,h,j=>by simp at h| [],n+1,[],h,j=>by simp at h| c::cs,n+1,vs,h,0=>by simp[uX]| c::cs,n+1,vs,h,j+1=>by have:=aY cs n vs (by grind) j;simp only[uX,PA,this];grind
def RepL (w:World) (S:Nat->Nat->Prop) (β:Bm) (vs:Array Value) (cs:List PV):Prop :=
 vs.size=cs.length/\∀ j,j<cs.length->Rep w S β (vs.getD j undef) (cs.getD j .any)
theorem DV (vs:List Value):∀ (k off:Nat) (cells:Array Value),off+k+vs.length<=cells.size ->((vs.zipIdx k).foldl (λ(cs:Array Value) (p:Value×Nat)=>cs.setIfInBounds (off+p.2) p.1) cells).size=cells.size /\ ∀ j,((vs.zipIdx k).foldl (λ(cs:Array Value) (p:Value×Nat)=>cs.setIfInBounds (off+p.2) p.1) cells).getD j undef=if off+k<=j/\j<off+k+vs.length then vs.getD (j-(off+k)) undef else cells.getD j undef:=by
 induction vs with
 |nil=>intro k off cells h;refine⟨rfl,λj=>?_⟩;simp;omega| cons v vs ih =>
  intro k off cells h;simp only[List.zipIdx_cons,Kk,bK] at *;obtain⟨h1,h2⟩:=ih (k+1) off (cells.setIfInBounds (off+k) v) (by grind);refine⟨by grind,λj=>?_⟩;rw[h2 j];by_cases hj:j=off+k
  ·(subst hj;rw[if_neg oM,if_pos oM];have:off+k<cells.size:=by omega);simp[this]
  ·by_cases hr:off+(k+1)<=j/\j<off+(k+1)+vs.length
   ·(rw[if_pos hr,if_pos oM];have:j-(off+k)=(j-(off+(k+1)))+1:=by omega);rw[this,PA]
   {rw[if_neg hr,if_neg oM];simp[Array.getElem?_setIfInBounds_ne (Ne.symm hj)]}
theorem Qf {cells:Array Value}{z:List PV}(hz:RepL w S β cells z){v:Value}{x:PV}(hv:Rep w S β v x)(hp:gQ x=true){off:Nat}(hle:off+(yR x).length<=z.length):RepL w S β (v.cells.zipIdx.foldl (λ(cs:Array Value) (p:Value×Nat)=>cs.setIfInBounds (off+p.2) p.1) cells) (uX z off (yR x)):=by
 obtain⟨h1,h2⟩:=fH hv hp;have hl:v.cells.toList.length=(yR x).length:=by omega
 obtain⟨h3,h4⟩:=DV v.cells.toList 0 off cells (by rw[hl,hz.1];omega);have he:v.cells.zipIdx.foldl (λ(cs:Array Value) (p:Value×Nat)=>cs.setIfInBounds (off+p.2) p.1) cells=(v.cells.toList.zipIdx 0).foldl (λ(cs:Array Value) (p:Value×Nat)=>cs.setIfInBounds (off+p.2) p.1) cells:=by rw[<-Array.foldl_toList,Array.toList_zipIdx]
 rw[he];refine⟨by rw[h3,hz.1,kE _ _ _ hle],λj hj=>?_⟩;rw[kE _ _ _ hle] at hj;rw[h4 j,aY _ _ _ hle j,hl];by_cases hr:off+0<=j/\j<off+0+(yR x).length;{rw[if_pos hr,if_pos oM];have:=h2 (j-off) oM;simp_all};{rw[if_neg hr,if_neg oM];exact hz.2 j hj}
theorem jI (zs:Array Value):RepL w S β zs (zs.toList.map wP):=by
 refine⟨by simp,λj hj=>?_⟩;have hj':j<zs.size:=by grind
 have:(zs.toList.map wP).getD j .any=wP (zs.getD j undef):=by simp_all
 rw[this];exact Uh _
inductive PartsRep (w:World) (S:Nat->Nat->Prop) (β:Bm):List (Nat×Value)->List (Nat×PV)->Prop
 |nil:PartsRep w S β [] []
 |cons {i v x r q} (hv:Rep w S β v x) (h:PartsRep w S β r q):PartsRep w S β ((i,v)::r) ((i,x)::q)
theorem tH {ρ:Operand->Value}{e:Operand->PV}(he:∀ x,Rep w S β (ρ x) (e x)):∀ (l:List (Nat×Operand)),PartsRep w S β (l.map λ(p:Nat×Operand)=>(p.1,ρ p.2)) (v7 e l)
 |[]=>.nil| (i,o)::r=>.cons (he o) (tH he r)
theorem JG {fs:List (Nat×Nat×Bool)}{place:Nat->Option (Nat×Nat)}(hpl:∀ i off sz ag,fs[i]?=some (off,sz,ag)->place i=some (off,sz)){vps:List (Nat×Value)}{ps:List (Nat×PV)}(h:PartsRep w S β vps ps):∀ {cells:Array Value} {z cs:List PV},RepL w S β cells z->UO fs ps z=some cs->∃ cells',Instr.fill place cells vps=some cells'/\RepL w S β cells' cs:=by
 induction h with
 |nil=>intro cells z cs hz hf;simp only[UO,pE] at hf;subst hf;exact⟨cells,rfl,hz⟩| @cons i v x r q hv h ih =>
  intro cells z cs hz hf;unfold UO at hf;split at hf
  ·rename_i off sz ag hi;cases hc:(nqb (yR x).length sz&&nle (off+sz) z.length&&gQ x) with
   |false=>grind| true =>
    (simp only[hc,cond_true] at hf;simp only[yK] at hc;obtain⟨⟨hl,hle⟩,hp⟩:=hc;have hl:=xC hl;have hle:=nF hle;obtain⟨c1,c2⟩:=fH hv hp;obtain⟨cells',h1,h2⟩:=ih (Qf hz hv hp oM) hf;refine⟨cells',?_,h2⟩;unfold Instr.fill;rw[hpl _ _ _ _ hi];have hn:¬(v.cells.size≠sz\/off+v.cells.size > cells.size):=by rw[c1,hz.1];omega);grind
  grind
theorem JI {n:Nat}{vps:List (Nat×Value)}{ps:List (Nat×PV)}(h:PartsRep w S β vps ps):∀ {cells:Array Value} {z cs:List PV},RepL w S β cells z->UP n ps z=some cs->∃ cells',Instr.fill (λi=>some (i*n,n)) cells vps=some cells'/\RepL w S β cells' cs:=by
 induction h with
 |nil=>intro cells z cs hz hf;simp only[UP,pE] at hf;subst hf;exact⟨cells,rfl,hz⟩| @cons i v x r q hv h ih =>
  intro cells z cs hz hf;unfold UP at hf;cases hc:(nqb (yR x).length n&&nle (i*n+n) z.length&&gQ x) with
  |false=>grind| true =>
   (simp only[hc,cond_true] at hf;simp only[yK] at hc;obtain⟨⟨hl,hle⟩,hp⟩:=hc;have hl:=xC hl;have hle:=nF hle;obtain⟨c1,c2⟩:=fH hv hp;obtain⟨cells',h1,h2⟩:=ih (Qf hz hv hp oM) hf;refine⟨cells',?_,h2⟩;unfold Instr.fill;have hn:¬(v.cells.size≠n\/i*n+v.cells.size > cells.size):=by rw[c1,hz.1];omega);grind
theorem Jf (P:Program)(fields:List Field)(hf:∀ f,f∈fields->∃ i,P.info? f.type=some i)(w:World):(fields.mapM λf=>do pure (f.offset,<-sizeOf f.type):Sem (List (Nat×Nat))).run P w=.ok (fields.map λf=>(f.offset,P.cellsOf f.type)) w:=by
 induction fields with
 |nil=>rfl| cons f r ih =>
  (obtain⟨i,hi⟩:=hf f (by simp);have:=ih λg hg=>hf g (by simp[hg]);have e:((do pure (f.offset,<-sizeOf f.type):Sem (Nat×Nat)).run P w)=.ok (f.offset,P.cellsOf f.type) w:=by simp[sizeOf,typeInfo,hi,Program.cellsOf]);rw[List.mapM_cons,Sem.run_bind,e,Result.andThen_ok,Sem.run_bind,this]
  simp
theorem Qn {t n:Nat}{fs:List (Nat×Nat×Bool)}{z:List PV}(ht:ty t=.st n fs z){ρ:Operand->Value}{e:Operand->PV}(he:∀ x,Rep w S β (ρ x) (e x)){parts:Array (Nat×Operand)}{cs:List PV} (hf:UO fs (v7 e parts.toList) z=some cs):∃ vs,(Instr.build t (parts.map λ(i,x)=>(i,ρ x))).run Pg w=.ok (.agg vs) w/\RepL w S β vs cs:=by
 obtain⟨i,fields,zs,h1,h2,h3,h4,h5,h6,h7,h8⟩:=Xr ht;subst h7;have hp:=tH (w:=w) (S:=S) (β:=β) he parts.toList;obtain⟨cells',g1,g2⟩:=JG (place:=λk=>(fields.map λf=>(f.offset,Pg.cellsOf f.type))[k]?) (by grind) hp (jI zs) hf;refine⟨cells',?_,g2⟩;have hm:(fields.mapM λf=>do pure (f.offset,<-sizeOf f.type):Sem (Array (Nat×Nat))).run Pg w=.ok (fields.map λf=>(f.offset,Pg.cellsOf f.type)) w:=by have:=Jf Pg fields.toList (λf hf=>by grind [qM]) w;rw[Array.mapM_eq_mapM_toList,Sem.run_map,this];exact congrArg (λl=>Result.ok l w) (Array.ext' (by simp))
 have h9:((parts.map λ(i,x)=>(i,ρ x)).toList)=parts.toList.map λ(p:Nat×Operand)=>(p.1,ρ p.2):=by simp
 simp only[Instr.build,Sem.run_bind,pJ h1 h3,Result.andThen_ok,run_underlying h2,hm,Value.cells,h9,g1,Sem.run_pure]
theorem VG {t len n:Nat}{ag:Bool}{z:List PV}(ht:ty t=.arr len n ag z){ρ:Operand->Value}{e:Operand->PV}(he:∀ x,Rep w S β (ρ x) (e x)){parts:Array (Nat×Operand)}{cs:List PV} (hf:UP n (v7 e parts.toList) z=some cs):∃ vs,(Instr.build t (parts.map λ(i,x)=>(i,ρ x))).run Pg w=.ok (.agg vs) w/\RepL w S β vs cs:=by
 obtain⟨i,el,zs,h1,h2,h3,h4,h5,h6,h7,h8,h8',h8'',h9⟩:=iW ht;subst h9;have hp:=tH (w:=w) (S:=S) (β:=β) he parts.toList;obtain⟨cells',g1,g2⟩:=JI hp (jI zs) hf;refine⟨cells',?_,g2⟩;obtain⟨j,hj1,hj2⟩:=qM (t:=el) oM;have h9:((parts.map λ(i,x)=>(i,ρ x)).toList)=parts.toList.map λ(p:Nat×Operand)=>(p.1,ρ p.2):=by simp
 have hs:j.size=n:=hj2.trans h6;simp only[Instr.build,Sem.run_bind,pJ h1 h3,Result.andThen_ok,run_underlying h2,Value.cells,h9,uE hj1,hs,g1,Sem.run_pure]
def kZ:List (List PV)->List PV
 |[]=>[]| e::r=>e++kZ r
theorem jW (n:Nat):∀ (z:List (List PV)),(∀ e,e∈z->e.length=n)->(kZ z).length=z.length*n
 |[],_=>by simp[kZ]| e::r,h=>by have:=jW n r λe he=>h e (by simp[he]);grind [kZ]
theorem rF:∀ (a b vs:List PV),vs.length=a.length->uX (a++b) 0 vs=vs++b
 |[],b,[],_=>by grind [uX]| c::a,b,v::vs,h=>by simp only[Yh,uX];rw[rF a b vs (by grind)]| [],_,_::_,h=>by simp at h| _::_,_,[],h=>by simp at h
theorem aZ:∀ (a b vs:List PV) (k:Nat),uX (a++b) (a.length+k) vs=a++uX b k vs
 |[],b,vs,k=>by simp| c::a,b,vs,k=>by
  (have:(c::a).length+k=(a.length+k)+1:=by grind);rw[this]
  simp only[Yh,uX];rw[aZ a b vs k]
theorem UM (n:Nat):∀ (z:List (List PV)) (i:Nat) (e:List PV),(∀ x,x∈z->x.length=n)->e.length=n->i<z.length->kZ (z.set i e)=uX (kZ z) (i*n) e
 |[],i,e,_,_,hi=>by grind| x::z,0,e,h,he,_=>by simp only[List.set_cons_zero,kZ,ZI];grind [rF]| x::z,i+1,e,h,he,hi=>by
  (simp only[List.set_cons_succ,kZ];rw[UM n z i e (λy hy=>h y (by simp[hy])) he (by grind)];have:(i+1)*n=x.length+i*n:=by grind);rw[this,aZ]
theorem JH {n:Nat}{vps:List (Nat×Value)}{ps:List (Nat×PV)}(h:PartsRep w S β vps ps):∀ {cells:Array Value} {z els:List (List PV)},(∀ e,e∈z->e.length=n)->RepL w S β cells (kZ z)->rM n ps z=some els ->∃ cells',Instr.fill (λi=>some (i*n,n)) cells vps=some cells'/\RepL w S β cells' (kZ els)/\(∀ e,e∈els->e.length=n)/\els.length=z.length:=by
 induction h with
 |nil=>intro cells z els hn hz hf;simp only[rM,pE] at hf;subst hf;exact⟨cells,rfl,hz,hn,rfl⟩| @cons i v x r q hv h ih =>
  intro cells z els hn hz hf;unfold rM at hf;cases hc:(nqb (yR x).length n&&nlt i z.length&&gQ x) with
  |false=>grind| true =>
   (simp only[hc,cond_true] at hf;simp only[yK] at hc;obtain⟨⟨hl,hlt⟩,hp⟩:=hc;have hl:=xC hl;have hlt:i<z.length:=by simp_all);have hle:i*n+n<=(kZ z).length:=by
    rw[jW n z hn]
    calc i*n+n=(i+1)*n:=by grind
     _<=z.length*n:=jC _ hlt
   (obtain⟨c1,c2⟩:=fH hv hp;have hs:=Qf hz hv hp (off:=i*n) oM;rw[<-UM n z i (yR x) hn hl hlt] at hs;obtain⟨cells',h1,h2,h3,h4⟩:=ih (z:=z.set i (yR x)) (λe he=>by grind) hs hf;refine⟨cells',?_,h2,h3,by grind⟩;unfold Instr.fill;have hn':¬(v.cells.size≠n\/i*n+v.cells.size > cells.size):=by rw[c1,hz.1];omega);grind
theorem m9 (z:List PV):∀ n,(pP z n).length=n
 |0=>rfl| n+1=>by simp[pP,m9 z n]
theorem XQ (z:List PV):∀ n e,e∈pP z n->e=z
 |0,e,h=>by grind [pP]| n+1,e,h=>by simp only[pP,yI] at h;rcases h with h|h;{exact h};{exact XQ z n e h}
theorem mE (z:List PV)(m:Nat)(hm:z.length=m)(hp:0<m):∀ n j,j<n*m->(kZ (pP z n)).getD j .any=z.getD (j%m) .any
 |0,j,h=>by simp at h| n+1,j,h=>by simp only[pP,kZ];by_cases hj:j<m;{grind [Nat.mod_eq_of_lt]};{rw[fK,ZH oM,<-fK,hm];rw[mE z m hm hp n (j-m) (by grind)];grind [Nat.mod_eq_sub_mod]}
end
end Go.Proofs.YtaeaffgjdcigoaaGreat
