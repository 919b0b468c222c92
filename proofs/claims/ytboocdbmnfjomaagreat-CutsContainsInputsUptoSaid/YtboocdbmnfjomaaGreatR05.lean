/- A part of the proof: PmD, PmE, PmF. -/
import Derived.Test.YtboocdbmnfjomaaGreatR04
import Derived.Laws.BytesString
set_option linter.all false
namespace Go.Proofs.YtboocdbmnfjomaaGreat
open Go
theorem H2 {m n:Nat}(h:m≠n):nqb m n=false:=by
 cases hb:nqb m n with
 |false=>rfl| true=>exact absurd (y8 hb) h
theorem VZ {t:Nat}{x:Ty}(h:ty t=x)(hx:x≠.no):vW Pg t=x:=by rcases N2 t with h1|h1;{exact absurd (h1 ▸ h).symm hx};{exact h1.trans h}
theorem sE (P:Program)(i:TypeInfo)(fs:Array Field):Db P i fs=.no\/∃ zs:Array Value,i.zero=some (.agg zs)/\(∀ f,f∈fs.toList->0<P.cellsOf f.type)/\zs.size=i.size /\ Db P i fs=.st i.size (fs.toList.map λf=>(f.offset,P.cellsOf f.type,gJ P f.type)) (zs.toList.map wT):=by unfold Db;split;{rename_i zs hz;split;{rename_i h;exact .inr ⟨zs,hz,h.1,h.2.1,rfl⟩};{exact .inl rfl}};{exact .inl rfl}
theorem Cu {P:Program}{i:TypeInfo}{fs:Array Field}{n:Nat}{ff:List (Nat×Nat×Bool)}{z:List PV}(h:Db P i fs=.st n ff z):∀ f,f∈fs.toList->(P.underlying f.type).isSome=true:=by unfold Db at h;split at h;{split at h;{rename_i h';exact h'.2.2};{cases h}};{cases h}
theorem cT (P:Program)(i:TypeInfo)(e:TypeId):SL P i e=.no\/(i.size=1/\i.zero=some (.slice none 0 0)/\∃ j zv,P.info? e=some j/\j.zero=some zv/\zv.cells.size=j.size/\0<j.size/\0<j.bytes /\ SL P i e=.sli j.size j.bytes (zv.cells.toList.map wT)):=by unfold SL;split;{exact .inl rfl};{rename_i hs;split;{rename_i j hz0 hj;split;{rename_i zv hz;split;{rename_i h;exact .inr ⟨by omega,hz0,j,zv,hj,hz,h.1,h.2.1,h.2.2,rfl⟩};{exact .inl rfl}};{exact .inl rfl}};{exact .inl rfl}}
theorem cW (P:Program)(i:TypeInfo)(len:Nat)(e:TypeId):Rb P i len e=.no\/∃ zs:Array Value,i.zero=some (.agg zs)/\zs.size=i.size/\i.size=len*P.cellsOf e/\1<len/\0<P.cellsOf e/\(P.underlying e).isSome=true /\ Rb P i len e=.arr len (P.cellsOf e) (gJ P e) (zs.toList.map wT):=by unfold Rb;split;{rename_i zs hz;split;{rename_i h;exact .inr ⟨zs,hz,h.1,h.2.1,h.2.2.1,h.2.2.2.1,h.2.2.2.2,rfl⟩};{exact .inl rfl}};{exact .inl rfl}
theorem sG (i:TypeInfo)(d:TypeDesc):Dc i d=.no\/∃ zv,i.zero=some zv/\i.size=1/\zv.cells=#[zv]/\Dc i d=.sc (wT zv)/\(∀ k x,wT zv=.int k x->d=.int k)/\(wT zv=.ff->d=.bool) /\ (match d with|.struct _=>False|.array _ _=>False|_=>True):=by unfold Dc;split;{rename_i zv hz;split;{rename_i h;split;{rename_i k k' n;split;{rename_i hk;subst hk;exact .inr ⟨_,hz,h,rfl,rfl,λk x hx=>by simp[wT] at hx;rw[hx.1],λhx=>by simp[wT] at hx,trivial⟩};{exact .inl rfl}};{exact .inr ⟨_,hz,h,rfl,rfl,λk x hx=>by simp[wT] at hx,λ_=>rfl,trivial⟩};{exact .inr ⟨_,hz,h,rfl,rfl,λk x hx=>by simp[wT] at hx,λhx=>by simp[wT] at hx,trivial⟩};{exact .inr ⟨_,hz,h,rfl,rfl,λk x hx=>by simp[wT] at hx,λhx=>by simp[wT] at hx,trivial⟩};{exact .inr ⟨_,hz,h,rfl,rfl,λk x hx=>by simp[wT] at hx,λhx=>by simp[wT] at hx,trivial⟩};{exact .inr ⟨_,hz,h,rfl,rfl,λk x hx=>by simp[wT] at hx,λhx=>by simp[wT] at hx,trivial⟩};{exact .inl rfl}};{exact .inl rfl}};{exact .inl rfl}
theorem u6 {t n b:Nat}{z:List PV}(h:ty t=.sli n b z):∃ i e j zv,Pg.info? t=some i/\i.size=1/\i.zero=some (.slice none 0 0)/\Pg.underlying t=some (.slice e)/\Pg.info? e=some j/\j.zero=some zv/\j.size=n/\j.bytes=b/\zv.cells.size=n/\0<n/\z=zv.cells.toList.map wT/\0<b:=by
 have h1:=VZ h (by simp);unfold vW at h1;split at h1;{rename_i i fs hi hu;rcases sE Pg i fs with e|⟨zs,_,_,_,e⟩ <;> rw[e] at h1 <;> cases h1}
 ·(rename_i i e hi hu;rcases cT Pg i e with e'|⟨hi1,hi2,j,zv,hj,hz,hs,hp,hbp,e'⟩ <;> rw[e'] at h1 <;> cases h1);exact⟨i,e,j,zv,hi,hi1,hi2,hu,hj,hz,rfl,rfl,hs,hp,rfl,hbp⟩
 {rename_i i len e hi hu;rcases cW Pg i len e with e|⟨zs,_,_,_,_,_,_,e⟩ <;> rw[e] at h1 <;> cases h1};{rename_i i d _ _ _ hi hu;rcases sG i d with e|⟨zs,_,_,_,e,_⟩ <;> rw[e] at h1 <;> cases h1};{cases h1}
theorem Xr {t n:Nat}{fs:List (Nat×Nat×Bool)}{z:List PV}(h:ty t=.st n fs z):∃ i fields zs,Pg.info? t=some i/\Pg.underlying t=some (.struct fields)/\i.zero=some (.agg zs)/\i.size=n/\zs.size=n /\ fs=fields.toList.map (λf=>(f.offset,Pg.cellsOf f.type,gJ Pg f.type))/\z=zs.toList.map wT/\∀ f,f∈fields.toList->0<Pg.cellsOf f.type:=by
 have h1:=VZ h (by simp);unfold vW at h1;split at h1
 ·(rename_i i fs hi hu;rcases sE Pg i fs with e|⟨zs,hz,hf,hs,e⟩ <;> rw[e] at h1 <;> cases h1);exact⟨i,fs,zs,hi,hu,hz,rfl,hs,rfl,rfl,hf⟩
 {rename_i i e hi hu;rcases cT Pg i e with e'|⟨_,_,j,zv,hj,hz,hs,hp,_,e'⟩ <;> rw[e'] at h1 <;> cases h1};{rename_i i len e hi hu;rcases cW Pg i len e with e|⟨zs,_,_,_,_,_,_,e⟩ <;> rw[e] at h1 <;> cases h1};{rename_i i d _ _ _ hi hu;rcases sG i d with e|⟨zs,_,_,_,e,_⟩ <;> rw[e] at h1 <;> cases h1};{cases h1}
theorem Tv {t n:Nat}{fs:List (Nat×Nat×Bool)}{z:List PV}(h:ty t=.st n fs z):∃ fields,Pg.underlying t=some (.struct fields)/\∀ f,f∈fields.toList->(Pg.underlying f.type).isSome=true:=by have h1:=VZ h (by simp);unfold vW at h1;split at h1;{rename_i i fs hi hu;exact⟨fs,hu,Cu h1⟩};{rename_i i e hi hu;rcases cT Pg i e with e'|⟨_,_,j,zv,hj,hz,hs,hp,_,e'⟩ <;> rw[e'] at h1 <;> cases h1};{rename_i i len e hi hu;rcases cW Pg i len e with e|⟨zs,_,_,_,_,_,_,e⟩ <;> rw[e] at h1 <;> cases h1};{rename_i i d _ _ _ hi hu;rcases sG i d with e|⟨zs,_,_,_,e,_⟩ <;> rw[e] at h1 <;> cases h1};{cases h1}
theorem iS {t len n:Nat}{ag:Bool}{z:List PV}(h:ty t=.arr len n ag z):∃ i e zs,Pg.info? t=some i/\Pg.underlying t=some (.array len e)/\i.zero=some (.agg zs)/\i.size=len*n/\zs.size=len*n/\Pg.cellsOf e=n/\gJ Pg e=ag/\1<len/\0<n/\(Pg.underlying e).isSome=true/\z=zs.toList.map wT:=by
 have h1:=VZ h (by simp);unfold vW at h1;split at h1;{rename_i i fs hi hu;rcases sE Pg i fs with e|⟨zs,_,_,_,e⟩ <;> rw[e] at h1 <;> cases h1};{rename_i i e hi hu;rcases cT Pg i e with e'|⟨_,_,j,zv,hj,hz,hs,hp,_,e'⟩ <;> rw[e'] at h1 <;> cases h1}
 ·(rename_i i len e hi hu;rcases cW Pg i len e with e'|⟨zs,hz,h2,h3,h4,h5,h6,e'⟩ <;> rw[e'] at h1 <;> cases h1);exact⟨i,e,zs,hi,hu,hz,h3,h2.trans h3,rfl,rfl,h4,h5,h6,rfl⟩
 {rename_i i d _ _ _ hi hu;rcases sG i d with e|⟨zs,_,_,_,e,_⟩ <;> rw[e] at h1 <;> cases h1};{cases h1}
theorem Xs {t:Nat}{z:PV}(h:ty t=.sc z):∃ i d zv,Pg.info? t=some i/\Pg.underlying t=some d/\i.size=1/\i.zero=some zv/\gJ Pg t=false/\zv.cells=#[zv]/\z=wT zv/\(∀ k x,z=.int k x->d=.int k)/\(z=.ff->d=.bool):=by
 have h1:=VZ h (by simp);unfold vW at h1;split at h1;{rename_i i fs hi hu;rcases sE Pg i fs with e|⟨zs,_,_,_,e⟩ <;> rw[e] at h1 <;> cases h1};{rename_i i e hi hu;rcases cT Pg i e with e'|⟨_,_,j,zv,hj,hz,hs,hp,_,e'⟩ <;> rw[e'] at h1 <;> cases h1};{rename_i i len e hi hu;rcases cW Pg i len e with e|⟨zs,_,_,_,_,_,_,e⟩ <;> rw[e] at h1 <;> cases h1}
 ·(rename_i i d _ _ _ hi hu;rcases sG i d with e|⟨zv,hz,hs,hc,e,hk,hb,hd⟩ <;> rw[e] at h1 <;> cases h1);exact⟨i,d,zv,hi,hu,hs,hz,by unfold gJ;rw[hu];cases d <;> first|rfl|exact hd.elim,hc,rfl,hk,hb⟩
 {cases h1}
theorem Cv (i:TypeInfo)(d:TypeDesc)(h:Dc i d=.sc .nilp):∃ e,d=.pointer e:=by unfold Dc at h;split at h;{split at h;{split at h;{split at h <;> cases h};{cases h};{cases h};{exact⟨_,rfl⟩};{cases h};{cases h};{cases h}};{cases h}};{cases h}
theorem Tw {t:Nat}(h:ty t=.sc .nilp):∃ e,Pg.underlying t=some (.pointer e):=by have h1:=VZ h (by simp);unfold vW at h1;split at h1;{rename_i i fs hi hu;rcases sE Pg i fs with e|⟨zs,_,_,_,e⟩ <;> rw[e] at h1 <;> cases h1};{rename_i i e hi hu;rcases cT Pg i e with e'|⟨_,_,j,zv,hj,hz,hs,hp,_,e'⟩ <;> rw[e'] at h1 <;> cases h1};{rename_i i len e hi hu;rcases cW Pg i len e with e|⟨zs,_,_,_,_,_,_,e⟩ <;> rw[e] at h1 <;> cases h1};{rename_i i d _ _ _ hi hu;obtain⟨e,rfl⟩:=Cv i d h1;exact⟨e,hu⟩};{cases h1}
section inv
variable {w:World} {S:Nat->Nat->Prop} {β:Bm} {v:Value}
theorem vX {k n}(h:Rep w S β v (.int k n)):v=.int k (n ()):=by cases h with|c hf h=>cases h;rfl
theorem i3 (h:Rep w S β v .tt):v=.bool true:=by cases h with|c hf h=>cases h;rfl
theorem ZT (h:Rep w S β v .ff):v=.bool false:=by cases h with|c hf h=>cases h;rfl
theorem sN {b}(h:Rep w S β v (.bool b)):v=.bool (b ()):=by cases h with|c hf h=>generalize hd:toD (.bool b)=d at h;cases h <;> simp[toD] at hd;subst hd;rfl
theorem aV {b}(h:Rep w S β v (.nbool b)):v=.bool (!(b ())):=by cases h with|c hf h=>generalize hd:toD (.nbool b)=d at h;cases h <;> simp[toD] at hd;simp[hd]
theorem Y0 {b}(h:Rep w S β v (.str b)):v=.string (b ()):=by cases h with|c hf h=>generalize hd:toD (.str b)=d at h;cases h <;> simp[toD] at hd;subst hd;rfl
theorem oW (h:Rep w S β v .emp):∃ a,v=.slice a 0 0:=by cases h with|c hf h=>cases hf|emp a=>exact⟨a,rfl⟩
theorem oU {x:PV}(hx:jV x=true)(h:Rep w S β v x):(∃ a,v=.slice a 0 0)/\∀ {w':World} {S':Nat->Nat->Prop},Rep w' S' β v x:=by
 cases x with
 |nil=>cases h with|c hf h=>cases hf|nil=>exact⟨⟨_,rfl⟩,.nil⟩
 |emp=>cases h with|c hf h=>cases hf|emp a=>exact⟨⟨_,rfl⟩,.emp a⟩
 |_=>cases hx
theorem dI (h:Rep w S β v .nil):v=.slice none 0 0:=by cases h with|c hf h=>cases hf|nil=>rfl
theorem kC {cs}(h:Rep w S β v (.agg cs)):∃ vs:Array Value,v=.agg vs/\vs.size=cs.length/\∀ j,j<cs.length->Rep w S β (vs.getD j undef) (cs.getD j .any):=by cases h with|c hf h=>cases hf|agg hl h=>exact⟨_,rfl,hl,h⟩
theorem dH {cs}(h:Rep w S β v (.tup cs)):∃ vs:Array Value,v=.tuple vs/\vs.size=cs.length/\∀ j,j<cs.length->Rep w S β (vs.getD j undef) (cs.getD j .any):=by cases h with|c hf h=>cases hf|tup hl h=>exact⟨_,rfl,hl,h⟩
theorem dJ {f cs}(h:Rep w S β v (.fn f cs)):∃ vs:Array Value,v=.func (.func f) #[] vs/\vs.size=cs.length/\∀ j,j<cs.length->Rep w S β (vs.getD j undef) (cs.getD j .any):=by cases h with|c hf h=>cases hf|fn hl h=>exact⟨_,rfl,hl,h⟩
theorem jP {n o}(h:Rep w S β v (.ptr n o)):∃ b,β n=some b/\v=.pointer (some ⟨b,o,none⟩):=by cases h with|c hf h=>cases hf|ptr hβ=>exact⟨_,hβ,rfl⟩
theorem oV {n}(h:Rep w S β v (.mpv n)):∃ b,β n=some b/\v=.map (some b):=by cases h with|c hf h=>cases hf|mpv hβ=>exact⟨_,hβ,rfl⟩
theorem jE {n s i o}(h:Rep w S β v (.aptr n s i o)):∃ b,β n=some b/\v=.pointer (some ⟨b,i ()*s+o,none⟩):=by cases h with|c hf h=>cases hf|aptr hβ=>exact⟨_,hβ,rfl⟩
theorem sM {cs o}(h:Rep w S β v (.dptr cs o)):∃ (b o':Nat) (vals:Nat->Value),(∀ j,j<cs.length->S b (o'+j))/\v=.pointer (some ⟨b,o'+o,none⟩)/\y4 qV cs=true /\ (∀ j,j<cs.length->w.cell? ⟨b,o'+j,none⟩=some (vals j))/\∀ j,j<cs.length->RepD w S (vals j) (toD (cs.getD j .any)):=by cases h with|c hf h=>cases hf|dptr vals hS hf hc hr=>exact⟨_,_,vals,hS,rfl,hf,hc,hr⟩
theorem qG {n s o len}(h:Rep w S β v (.osl n s o len)):(β n=none/\o ()=0/\len ()=0/\∃ a,v=.slice a 0 0) \/ ∃ b cap vs T,β n=some b/\len ()<=cap/\w.heap[b]?=some (.cells vs T (0,0))/\(o ()+cap)*s<=vs.size/\v=.slice (some ⟨b,o ()*s,none⟩) (len ()) cap:=by
 cases h with
 |c hf h=>cases hf
 |osl hβ hlc hb hsz=>exact .inr ⟨_,_,_,_,hβ,hlc,hb,hsz,rfl⟩| osl0 hβ ho hl=>exact .inl ⟨hβ,ho,hl,_,rfl⟩
theorem dK {els}(h:RepD w S v (.sl els)):(els=[]/\∃ a cap,v=.slice a 0 cap) \/ ∃ (b o cap s:Nat) (vals:Nat->Nat->Value),els≠[]/\els.length<=cap/\(∀ i j,i<els.length->j<s->S b (o+i*s+j))/\(∀ e,e∈els->e.length=s) /\ (∀ i j,i<els.length->j<s->w.cell? ⟨b,o+i*s+j,none⟩=some (vals i j)) /\ (∀ i j,i<els.length->j<s->RepD w S (vals i j) ((els.getD i []).getD j .any))/\(∀ i j,i<els.length->j<s->(vals i j).oneCell'=true)/\v=.slice (some ⟨b,o,none⟩) els.length cap:=by
 cases h with
 |sl0 a cap=>exact .inl ⟨rfl,a,cap,rfl⟩| sl vals hne hcap hS hs hc h1 hr=>exact .inr ⟨_,_,_,_,vals,hne,hcap,hS,hs,hc,hr,h1,rfl⟩
theorem rY {els}(h:Rep w S β v (.sl els)):RepD w S v (.sl (els ())):=by cases h with|c hf h=>exact h
theorem XQ {pv}(h:Rep w S β v pv)(hf:qV pv=true):RepD w S v (toD pv):=by
 cases h with
 |c hf h=>exact h| _=>simp[qV] at hf
theorem mV {pv}(h:Rep w S β v pv)(hf:iU pv=true):RepD w S v (toD pv):=by
 cases pv with
 |nil=>rw[dI h];exact .sl0 _ _| _=>exact XQ h (by simpa[iU] using hf)
theorem Uh (v:Value):Rep w S β v (wT v):=by unfold wT;split;{exact .c rfl (.int _ _)};{exact .c rfl (.bool true)};{exact .c rfl (.bool false)};{exact .c rfl (.str _)};{exact .nil};{exact .nilf};{exact .nilp};{exact .c rfl (.any _)}
theorem xV (v:Value):Rep w S β v .any:=.c rfl (.any v)
end inv
structure Cx where
 n:Nat
 b0:Bm
instance:Coe Cx Nat:=⟨Cx.n⟩
structure Sim (w0:World) (S0:Nat->Nat->Prop) (K0:Nat->Prop) (N:Cx) (τ:Nat->PV) (objs:List (Nat×Obj')) (a:Act) (w:World) (S:Nat->Nat->Prop) (β:Bm):Prop where
 dfr:a.defers=[]
 sz:a.tmps.size=N
 ld:Leads w0 S0 K0 w S
 tmp:∀ t,Rep w S β (a.tmps.getD t undef) (τ t)
 obj:ObjsAt w S β objs
 own:∀ n o b,(n,o)∈objs->Own β n o b->w0.heap.size<=b\/K0 b
 keep:∀ n o,(n,o)∈objs->1000000<=n->β n=N.b0 n
def upd (τ:Nat->PV) (d:Option Nat) (x:PV):Nat->PV :=
 match d with
 |none=>τ| some d=>λt=>if t=d then x else τ t
theorem gR (l:List (Nat×PV))(d:Nat)(x:PV)(t:Nat):zD (v4 l d x) t=if t=d then x else zD l t:=by
 induction l with
 |nil =>
  by_cases h:t=d;{subst h;simp[v4,zD]};{have:nqb d t=false:=H2 λe=>h e.symm;simp[v4,zD,this,h]}
 |cons p r ih =>
  obtain⟨u,v⟩:=p;by_cases hu:u=d;{subst hu;by_cases h:t=u;{subst h;simp[v4,zD]};{have:nqb u t=false:=H2 λe=>h e.symm;simp[v4,zD,this,h]}};{have h1:nqb u d=false:=H2 hu;by_cases h:u=t;{subst h;simp[v4,zD,h1,hu]};{have h2:nqb u t=false:=H2 h;simp[v4,zD,h1,h2,ih]}}
theorem xL (ps:PS)(d:Option Nat)(x:PV):zD (put ps d x).tmps=upd (zD ps.tmps) d x:=by
 cases d with
 |none=>rfl| some d=>funext t;simp[put,upd,gR]
theorem kH (ps:PS)(d:Option Nat)(x:PV):(put ps d x).objs=ps.objs:=by cases d <;> rfl
section sim
variable {w0:World} {S0:Nat->Nat->Prop} {K0:Nat->Prop} {N:Cx} {τ:Nat->PV} {objs:List (Nat×Obj')} {a:Act} {w:World} {S:Nat->Nat->Prop} {β:Bm}
theorem Sim.put (h:Sim w0 S0 K0 N τ objs a w S β)(d:Option Nat)(hd:∀ t,d=some t->t<N){v:Value}{x:PV}(hv:Rep w S β v x):Sim w0 S0 K0 N (upd τ d x) objs (a.put d v) w S β:=by
 cases d with
 |none=>exact h| some d =>
  have hN:=hd d rfl;refine⟨h.dfr,by simpa[Act.put] using h.sz,h.ld,λt=>?_,h.obj,h.own,h.keep⟩;simp only[upd];by_cases ht:t=d
  ·(subst ht;have:t<a.tmps.size:=by rw[h.sz];exact hN);simpa[Act.put,this] using hv
  {rw[if_neg ht];have:=h.tmp t;simpa[Act.put,Array.getElem?_setIfInBounds_ne (Ne.symm ht)] using this}
theorem Sim.eval (h:Sim w0 S0 K0 N τ objs a w S β)(x:Operand):Rep w S β (a.eval x) (ev τ x):=by
 cases x with
 |tmp t=>exact h.tmp t| const v=>exact Uh v| global g=>exact xV _| func f=>exact .fn rfl (λj hj=>by simp at hj)
theorem xG {l:List (Nat×Obj')}{n:Nat}{o:Obj'}(h:yK l n=some o):(n,o)∈l:=by
 induction l with
 |nil=>simp[yK] at h| cons p r ih =>
  obtain⟨u,v⟩:=p;simp only[yK] at h;cases hu:nqb u n with
  |true=>simp only[hu,cond_true,rF] at h;have:=y8 hu;subst this h;exact wZ| false=>simp only[hu,cond_false] at h;exact wJ _ (ih h)
end sim
theorem kE {o:Oper}{a:Act}{w w':World}{v:Value}{Km:Act->World->Prop}{Q:Exit->Act->World->Prop} (h:(execOp a.eval o).run Pg w=.ok (.value v) w') (hk:Km (a.put o.dst v) w'):o.wp Pg a w Km Q:=by unfold Oper.wp;rw[h];exact hk
theorem oB {o:Oper}{a:Act}{w w':World}{Km:Act->World->Prop}{Q:Exit->Act->World->Prop} (h:(execOp a.eval o).run Pg w=.ok .skip w') (hk:Km (a.put o.dst undef) w'):o.wp Pg a w Km Q:=by unfold Oper.wp;rw[h];exact hk
theorem KX {t:TypeId}{i:TypeInfo}(h:Pg.info? t=some i)(w:World):(typeInfo t).run Pg w=.ok i w:=by simp[typeInfo,h]
theorem uP {t:TypeId}{i:TypeInfo}(h:Pg.info? t=some i)(w:World):(sizeOf t).run Pg w=.ok i.size w:=by simp[sizeOf,KX h]
theorem pD {t:TypeId}{i:TypeInfo}{z:Value}(h:Pg.info? t=some i)(hz:i.zero=some z)(w:World):(zeroValue t).run Pg w=.ok z w:=by simp[zeroValue,KX h,hz]
theorem qT {t:TypeId}(h:0<Pg.cellsOf t):∃ i,Pg.info? t=some i/\i.size=Pg.cellsOf t:=by
 unfold Program.cellsOf at *;cases hi:Pg.info? t with
 |none=>grind| some i=>grind
theorem pE {t:TypeId}{d:TypeDesc}(h:Pg.underlying t=some d)(w:World):(isAgg t).run Pg w=.ok (gJ Pg t) w:=by unfold isAgg gJ;simp only[Sem.run_bind,run_underlying h,Result.andThen_ok,h];cases d <;> rfl
theorem jK (b o n:Nat):(⟨b,o,none⟩:Addr).add n=⟨b,o+n,none⟩:=by grind [Addr.add]
theorem UY {t:Nat}(h:(ty t).isNo=false):∃ i d,Pg.info? t=some i/\Pg.underlying t=some d/\i.size=(ty t).cells/\gJ Pg t=(ty t).isA:=by
 cases ht:ty t with
 |no=>grind [Ty.isNo]| sc z=>obtain⟨i,d,zv,h1,h2,h3,_,h5,_⟩:=Xs ht;exact⟨i,d,h1,h2,h3,h5⟩
 |st n fs z=>obtain⟨i,fields,zs,h1,h2,_,h4,_⟩:=Xr ht;exact⟨i,_,h1,h2,h4,by simp[gJ,h2,Ty.isA]⟩
 |arr len n ag z=>obtain⟨i,e,zs,h1,h2,_,h4,_⟩:=iS ht;exact⟨i,_,h1,h2,h4,by simp[gJ,h2,Ty.isA]⟩
 |sli n b z=>obtain⟨i,e,j,zv,h1,h2,_,h3,_⟩:=u6 ht;exact⟨i,_,h1,h3,h2,by simp[gJ,h3,Ty.isA]⟩
theorem UN {t:Nat}(h:(ty t).isNo=false)(ha:(ty t).isA=false):(ty t).cells=1:=by
 cases ht:ty t <;> simp[ht,Ty.isNo,Ty.isA,Ty.cells] at *
theorem HR {t:Nat}(hno:(ty t).isNo=false){w:World}{b o:Nat}(vals:Nat->Value)(hc:∀ j,j<(ty t).cells->w.cell? ⟨b,o+j,none⟩=some (vals j)):(Instr.loadAt t (.pointer (some ⟨b,o,none⟩))).run Pg w=.ok (if (ty t).isA then .agg ((List.range (ty t).cells).map vals).toArray else vals 0) w:=by
 obtain⟨i,d,hi,hu,hs,ha⟩:=UY hno;have hl:=run_loadCells (P:=Pg) w ⟨b,o,none⟩ (ty t).cells vals (λj hj=>by grind [jK]);cases hA:(ty t).isA with
 |true =>
  simp[Instr.loadAt,Instr.sureAddr,loadVar,pE hu,ha,hA,uP hi,hs,hl]
 |false =>
  have h1:=UN hno hA;have hc0:=hc 0 oM;simp only[t9] at hc0;simp[Instr.loadAt,Instr.sureAddr,loadVar,pE hu,ha,hA,hc0]
section
variable {w:World} {S:Nat->Nat->Prop} {β:Bm}
theorem WD (cs:List PV)(off n j:Nat)(hj:j<n)(hn:off+n<=cs.length):((cs.drop off).take n).getD j .any=cs.getD (off+j) .any:=by grind
theorem aW {t:Nat}{cs:List PV}{off:Nat}{K:PV->Prop}(h:rdK (ty t) cs off K){b o:Nat}(vals:Nat->Value) (hc:∀ j,j<cs.length->w.cell? ⟨b,o+j,none⟩=some (vals j)) (hr:∀ j,j<cs.length->Rep w S β (vals j) (cs.getD j .any)):∃ pv val,K pv/\(Instr.loadAt t (.pointer (some ⟨b,o+off,none⟩))).run Pg w=.ok val w/\Rep w S β val pv:=by
 unfold rdK at h;cases hno:(ty t).isNo with
 |true=>grind| false =>
  simp only[hno,cond_false] at h;cases hle:nle (off+(ty t).cells) cs.length with
  |false=>grind| true =>
   simp only[hle,cond_true] at h;have hle:=m7 hle;refine⟨_,_,h,HR hno (λj=>vals (off+j)) (λj hj=>by grind),?_⟩;cases hA:(ty t).isA with
   |true =>
    (simp only[cond_true,if_true];refine .agg (by grind) λj hj=>?_;have hj':j<(ty t).cells:=by grind);rw[WD _ _ _ _ hj' hle]
    simpa[hj'] using hr (off+j) oM
   |false =>
    grind [UN]
theorem Qh {cs:List PV}{vals:Nat->Value}(hf:y4 qV cs=true)(hr:∀ j,j<cs.length->RepD w S (vals j) (toD (cs.getD j .any)))(j:Nat)(hj:j<cs.length):Rep w S β (vals j) (cs.getD j .any):=.c (xU rfl hf j) (hr j hj)
theorem j8:∀ (c:List PV) (j:Nat),(xC c).getD j .any=toD (c.getD j .any)
 |[],j=>by simp[xC,toD]| x::c,0=>by simp[xC]| x::c,j+1=>by simpa[xC] using j8 c j
theorem kS:∀ (c:List PV),(xC c).length=c.length
 |[]=>rfl| x::c=>by simp[xC,kS c]
end
section
variable {w:World} {S:Nat->Nat->Prop} {β:Bm} {K:PV->Prop}
theorem Ye {v:Value}{x:PV}{A B:Unit->Prop}(hr:Rep w S β v x)(h:brV x A B):∃ b,v=.bool b/\(b=true->A ())/\(b=false->B ()):=by unfold brV at h;split at h;{grind [i3]};{grind [ZT]};{exact⟨_,sN hr,λe=>h.t e,λe=>h.f e⟩};{exact⟨_,aV hr,λe=>h.f (by grind),λe=>h.t (by grind)⟩};grind
theorem En (a b:Bool):(a == b)=decide (a=b):=by grind
theorem L5 (a b:Int):(a == b)=decide (a=b):=by grind
theorem Od {z:Unit->Int}(h:InI64 z):IntKind.i64.wrap (z ())=z ():=IntWalk.i64_in _ ⟨h.lo,h.hi⟩
theorem sK (k:IntKind)(n:Unit->Int):Rep w S β (.int k (n ())) (.int k n):=.c rfl (.int _ _)
theorem pH (b:Unit->Bool):Rep w S β (.bool (b ())) (.bool b):=.c rfl (.bool _)
theorem mW (b:Unit->Bool):Rep w S β (.bool (!(b ()))) (.nbool b):=.c rfl (.bool _)
theorem lV {k:IntKind}{z:Unit->Int}(h:arK k z K):∃ pv,K pv/\Rep w S β (.int k (k.wrap (z ()))) pv:=by unfold arK at h;split at h;{exact⟨_,h.2,by rw[Od h.1];exact sK _ _⟩};grind [sK,nx]
theorem xI (op:BinOp)(t:TypeId)(x y:Operand)(v u:Value)(h:∀ cs,v≠.agg cs)(hn:v≠.nilIface):(eqGuard op t x y v u).run Pg w=.ok () w:=by
 unfold eqGuard;cases op <;> first
  |rfl
  |(cases v <;> first
   |(exact absurd rfl (h _))
   |(exact absurd rfl hn)
   |(cases u <;> rfl))
theorem Gd {op:BinOp}{t:TypeId}{x y:Operand}{k k':IntKind}{a b:Unit->Int}(h:DM op k a k' b K):∃ pv val,K pv/\(binOp op t (.int k (a ())) (.int k' (b ()))).run Pg w=.ok val w/\Rep w S β val pv:=by
 unfold DM at h;split at h
 ·(refine⟨_,_,h.2,?_,sK k (λ_=>ishl k (a ()) (b ()))⟩;have h0:¬b ()<0:=by have:=h.1.h;omega);simp[binOp,Op.shift,h0,ishl]
 ·(refine⟨_,_,h.2,?_,sK k (λ_=>ishr k (a ()) (b ()))⟩;have h0:¬b ()<0:=by have:=h.1.h;omega);simp[binOp,Op.shift,h0,ishr]
 ·rename_i op h1 h2;cases hk:GS k k' with
  |false=>grind| true =>
   (have hk':k=k':=by grind [GS]);subst hk'
   simp only[hk,cond_true] at h;split at h;{obtain⟨pv,hp,hr⟩:=lV (w:=w) (S:=S) (β:=β) h;exact⟨pv,_,hp,by simp[binOp,Op.intArith],hr⟩};{obtain⟨pv,hp,hr⟩:=lV (w:=w) (S:=S) (β:=β) h;exact⟨pv,_,hp,by simp[binOp,Op.intArith],hr⟩};{obtain⟨pv,hp,hr⟩:=lV (w:=w) (S:=S) (β:=β) h;exact⟨pv,_,hp,by simp[binOp,Op.intArith],hr⟩};{refine⟨_,_,h.2,?_,sK k (λ_=>nx k (iquo (a ()) (b ())))⟩;have h0:=h.1.h;simp[binOp,Op.intDiv,h0,nx,iquo]};{refine⟨_,_,h.2,?_,sK k (λ_=>irem (a ()) (b ()))⟩;have h0:=h.1.h;simp[binOp,Op.intDiv,h0,irem]};{exact⟨_,_,h,by simp[binOp,Op.intBits,iand],sK k (λ_=>iand k (a ()) (b ()))⟩};{exact⟨_,_,h,by simp[binOp,Op.intBits,ior],sK k (λ_=>ior k (a ()) (b ()))⟩};{exact⟨_,_,h,by simp[binOp,Op.intCmp,L5],pH (λ_=>decide (a ()=b ()))⟩};{exact⟨_,_,h,by simp[binOp,Op.intCmp,bne,L5],mW (λ_=>decide (a ()=b ()))⟩};{exact⟨_,_,h,by simp[binOp,Op.intCmp],pH (λ_=>decide (a ()<b ()))⟩};{exact⟨_,_,h,by simp[binOp,Op.intCmp],pH (λ_=>decide (a ()<=b ()))⟩};{exact⟨_,_,h,by simp[binOp,Op.intCmp],pH (λ_=>decide (b ()<a ()))⟩};{exact⟨_,_,h,by simp[binOp,Op.intCmp],pH (λ_=>decide (b ()<=a ()))⟩};grind
theorem s6 {v:Value}{x:PV}{b:Unit->Bool}(h:A7 x=some b)(hr:Rep w S β v x):v=.bool (b ()):=by unfold A7 at h;split at h;{cases h;exact i3 hr};{cases h;exact ZT hr};{cases h;exact sN hr};grind
theorem DT {v:Value}{x:PV}{f:Fld}(h:Av x=some f)(hr:Rep w S β v x):v=f.v:=by unfold Av at h;split at h;{cases h;exact vX hr};{split at h;{rename_i hb;cases h;exact s6 hb hr};{cases h}}
theorem Wv:∀ {cs:List PV} {l:List Fld},Z7 cs=some l->∀ {vs:List Value},vs.length=cs.length->(∀ j,j<cs.length->Rep w S β (vs.getD j undef) (cs.getD j .any))->vs=Zn l:=by
 intro cs;induction cs with
 |nil=>intro l h vs hl _;simp[Z7] at h;subst h;cases vs with
  |nil=>rfl| cons v vs=>grind
 |cons c cs ih =>
  intro l h vs hl hr;unfold Z7 at h;split at h
  ·rename_i x l' hx hl';simp only[rF] at h;subst h;cases vs with
   |nil=>grind| cons v vs =>
    have h0:=DT hx (by simpa using hr 0 (by simp));have:=ih hl' (vs:=vs) (by grind) (λj hj=>by simpa using hr (j+1) (by grind));grind [Zn]
  {cases h}
theorem Qv {t n b:Nat}{z:List PV}{x:Operand}{els:Unit->List (List D)}{v:Value}(hty:ty t=.sli n b z)(hx:Rep w S β v (.sl els))(h:NilCmp els K):∃ pv val,K pv/\((do eqGuard .eql t x (.const (.slice none 0 0)) v (.slice none 0 0);binOp .eql t v (.slice none 0 0):Sem Value)).run Pg w=.ok val w/\Rep w S β val pv:=by
 obtain⟨inf,el,j,zv,h1,h2,h3,h4,_⟩:=u6 hty;have hsl:=rY hx;obtain⟨ax,cap,hx'⟩:∃ ax cap,v=.slice ax (els ()).length cap:=by
  rcases dK hsl with⟨e0,aa,cap,hv⟩|⟨bb,oo,cap,s,vals,_,_,_,_,_,_,_,hv⟩
  all_goals grind
 have hcap0:ax=none->els ()=[]:=by
  intro e;subst e;rcases dK hsl with⟨e0,aa,cap,hv⟩|⟨bb,oo,cap,s,vals,_,_,_,_,_,_,_,hv⟩
  all_goals grind
 subst hx';refine⟨_,_,h.h ax.isNone (λe=>hcap0 (by simp_all)),?_,pH (λ_=>ax.isNone)⟩;rw[Sem.run_bind,xI _ _ _ _ _ _ (by grind) (by grind),Result.andThen_ok];simp only[binOp];simp[Op.equal,Op.maxDepth,Lib.run_equalIn_slice_nil w 9999 t el ax (els ()).length cap 0 0 h4]
theorem Qu {t n b:Nat}{z:List PV}{x:Operand}{m s:Nat}{o len:Unit->Nat}{v:Value}(hty:ty t=.sli n b z)(hx:Rep w S β v (.osl m s o len))(h:NilLen len K):∃ pv val,K pv/\((do eqGuard .eql t x (.const (.slice none 0 0)) v (.slice none 0 0);binOp .eql t v (.slice none 0 0):Sem Value)).run Pg w=.ok val w/\Rep w S β val pv:=by
 obtain⟨inf,el,j,zv,h1,h2,h3,h4,_⟩:=u6 hty;obtain⟨ax,ln,cap,hx',hcap0⟩:∃ ax ln cap,v=.slice ax ln cap/\(ax=none->len ()=0):=by
  rcases qG hx with⟨_,_,e0,aa,hv⟩|⟨bb,cap,vs,T,_,_,_,_,hv⟩
  all_goals grind
 subst hx';refine⟨_,_,h.h ax.isNone (λe=>hcap0 (by simp_all)),?_,pH (λ_=>ax.isNone)⟩;rw[Sem.run_bind,xI _ _ _ _ _ _ (by grind) (by grind),Result.andThen_ok];simp only[binOp];simp[Op.equal,Op.maxDepth,Lib.run_equalIn_slice_nil w 9999 t el ax ln cap 0 0 h4]
theorem H1 {t n b:Nat}{z:List PV}{x:Operand}(hty:ty t=.sli n b z):((do eqGuard .eql t x (.const (.slice none 0 0)) (.slice none 0 0) (.slice none 0 0);binOp .eql t (.slice none 0 0) (.slice none 0 0):Sem Value)).run Pg w=.ok (.bool true) w:=by obtain⟨inf,el,j,zv,h1,h2,h3,h4,_⟩:=u6 hty;rw[Sem.run_bind,xI _ _ _ _ _ _ (by grind) (by grind),Result.andThen_ok];simp only[binOp];simp[Op.equal,Op.maxDepth,Lib.run_equalIn_slice_nil w 9999 t el none 0 0 0 0 h4]
theorem K8 {t n b:Nat}{z:List PV}{x:Operand}(hty:ty t=.sli n b z):((do eqGuard .neq t x (.const (.slice none 0 0)) (.slice none 0 0) (.slice none 0 0);binOp .neq t (.slice none 0 0) (.slice none 0 0):Sem Value)).run Pg w=.ok (.bool false) w:=by obtain⟨inf,el,j,zv,h1,h2,h3,h4,_⟩:=u6 hty;rw[Sem.run_bind,xI _ _ _ _ _ _ (by grind) (by grind),Result.andThen_ok];simp only[binOp];simp[Op.equal,Op.maxDepth,Lib.run_equalIn_slice_nil w 9999 t el none 0 0 0 0 h4]
theorem VF {t n b:Nat}{z:List PV}{x:Operand}{els:Unit->List (List D)}{v:Value}(hty:ty t=.sli n b z)(hx:Rep w S β v (.sl els))(h:NilCmp els (λv=>K (R2 v))):∃ pv val,K pv/\((do eqGuard .neq t x (.const (.slice none 0 0)) v (.slice none 0 0);binOp .neq t v (.slice none 0 0):Sem Value)).run Pg w=.ok val w/\Rep w S β val pv:=by
 obtain⟨inf,el,j,zv,h1,h2,h3,h4,_⟩:=u6 hty;have hsl:=rY hx;obtain⟨ax,cap,hx'⟩:∃ ax cap,v=.slice ax (els ()).length cap:=by
  rcases dK hsl with⟨e0,aa,cap,hv⟩|⟨bb,oo,cap,s,vals,_,_,_,_,_,_,_,hv⟩
  all_goals grind
 have hcap0:ax=none->els ()=[]:=by
  intro e;subst e;rcases dK hsl with⟨e0,aa,cap,hv⟩|⟨bb,oo,cap,s,vals,_,_,_,_,_,_,_,hv⟩
  all_goals grind
 subst hx';refine⟨_,_,h.h ax.isNone (λe=>hcap0 (by simp_all)),?_,mW (λ_=>ax.isNone)⟩;rw[Sem.run_bind,xI _ _ _ _ _ _ (by grind) (by grind),Result.andThen_ok];simp only[binOp];simp[Op.equal,Op.maxDepth,Lib.run_equalIn_slice_nil w 9999 t el ax (els ()).length cap 0 0 h4]
theorem VE {t n b:Nat}{z:List PV}{x:Operand}{m s:Nat}{o len:Unit->Nat}{v:Value}(hty:ty t=.sli n b z)(hx:Rep w S β v (.osl m s o len))(h:NilLen len (λv=>K (R2 v))):∃ pv val,K pv/\((do eqGuard .neq t x (.const (.slice none 0 0)) v (.slice none 0 0);binOp .neq t v (.slice none 0 0):Sem Value)).run Pg w=.ok val w/\Rep w S β val pv:=by
 obtain⟨inf,el,j,zv,h1,h2,h3,h4,_⟩:=u6 hty;obtain⟨ax,ln,cap,hx',hcap0⟩:∃ ax ln cap,v=.slice ax ln cap/\(ax=none->len ()=0):=by
  rcases qG hx with⟨_,_,e0,aa,hv⟩|⟨bb,cap,vs,T,_,_,_,_,hv⟩
  all_goals grind
 subst hx';refine⟨_,_,h.h ax.isNone (λe=>hcap0 (by simp_all)),?_,mW (λ_=>ax.isNone)⟩;rw[Sem.run_bind,xI _ _ _ _ _ _ (by grind) (by grind),Result.andThen_ok];simp only[binOp];simp[Op.equal,Op.maxDepth,Lib.run_equalIn_slice_nil w 9999 t el ax ln cap 0 0 h4]
theorem Hq {op:BinOp}{t:TypeId}{a b:Unit->ByteArray}(h:Df op a b K):∃ pv val,K pv/\(binOp op t (.string (a ())) (.string (b ()))).run Pg w=.ok val w/\Rep w S β val pv:=by
 unfold Df at h;split at h
 ·refine⟨_,.string (a ()++b ()),h.2,?_,.c rfl (.str _)⟩;have h0:¬((((a ()).size+(b ()).size:Nat):Int) > IntKind.i64.max):=by
   (have:=h.1.h;have e:IntKind.i64.max=9223372036854775807:=by decide);omega
  simp only[binOp,Op.stringOp];simp_all
 {exact⟨_,_,h,by simp[binOp,Op.stringOp,Sem.run_pure],pH (λ_=>(a ()).toList == (b ()).toList)⟩};{exact⟨_,_,h,by simp[binOp,Op.stringOp,Sem.run_pure],mW (λ_=>(a ()).toList == (b ()).toList)⟩};grind
theorem Gs {v:Value}{ns:List Int}{els:List (List D)}(he:els=ns.map λn=>[D.int .u8 n])(h:RepD w S v (.sl els)):∃ a len cap,v=.slice a len cap/\(Conv.bytesToString (.slice a len cap)).run Pg w=.ok (.string (Xi ns)) w:=by
 rcases dK h with⟨e0,a,cap,hv⟩|⟨b,o,cap,s,vals,hne,hcap,hS,hs,hc,hr,h1,hv⟩
 ·(have hn:ns=[]:=by simp_all);subst hn
  refine⟨a,0,cap,by rw[hv],?_⟩;cases a with
  |none=>simp[Conv.bytesToString,Sem.run_pure,Xi]| some a=>exact run_bytesToString w a 0 cap [] (by simp[loadCells,loadCellsFrom,Sem.run_pure])
 ·(refine⟨some ⟨b,o,none⟩,els.length,cap,hv,run_bytesToString w ⟨b,o,none⟩ els.length cap ns ?_⟩;have hl:els.length=ns.length:=by grind);have hs1:s=1:=by
   cases hels:els with
   |nil=>grind| cons e r =>
    have:=hs e (by grind);grind
  subst hs1;have hl2:=run_loadCells (P:=Pg) w ⟨b,o,none⟩ els.length (λj=>.int .u8 (ns.getD j 0)) (λj hj=>by
   (have g:=hc j 0 hj oM;have r:=hr j 0 hj oM;have e:els.getD j []=[D.int .u8 (ns.getD j 0)]:=by grind);rw[e] at r
   (have r':RepD w S (vals j 0) (.int .u8 (ns.getD j 0)):=by grind);cases hx:vals j 0 with
   |_=>rw[hx] at r' g;cases r' <;> (grind [jK]))
  rw[hl2];congr 1;rw[hl];congr 1;refine List.ext_getElem (by simp) λi h1 h2=>?_;grind
theorem pF (w:World)(d:Nat)(t e:TypeId)(a b:Option Addr)(hu:Pg.underlying t=some (.pointer e))(h:(a.isNone || b.isNone)=true):(Op.equalIn (d+1) t (.pointer a) (.pointer b)).run Pg w=.ok (a.isNone&&b.isNone) w:=by cases a <;> cases b <;> simp at h <;> simp[Op.equalIn,run_underlying hu]
theorem aQ {x:PV}{v:Value}{a:Bool}(h:Gc x=some a)(hx:Rep w S β v x):∃ p,v=.pointer p/\p.isNone=a:=by
 cases x with
 |nilp=>cases h;cases hx with|c hf h=>cases hf|nilp=>grind
 |ptr n o=>cases h;obtain⟨b,_,rfl⟩:=jP hx;grind
 |_=>cases h
theorem Gu {op:BinOp}{t:TypeId}{ox oy:Operand}{x y:PV}{v u:Value}(hoy:∀ c,oy=.const c->u=c)(hx:Rep w S β v x)(hy:Rep w S β u y)(h:Cb op t ox oy x y K):∃ pv val,K pv/\((do eqGuard op t ox oy v u;binOp op t v u:Sem Value)).run Pg w=.ok val w/\Rep w S β val pv:=by
 unfold Cb at h;split at h;{rename_i k a k' b;have e1:=vX hx;have e2:=vX hy;subst e1 e2;obtain⟨pv,val,h1,h2,h3⟩:=Gd (w:=w) (S:=S) (β:=β) (t:=t) (x:=ox) (y:=oy) h;exact⟨pv,val,h1,by simp[xI,h2],h3⟩};{rename_i a b;have e1:=Y0 hx;have e2:=Y0 hy;subst e1 e2;obtain⟨pv,val,h1,h2,h3⟩:=Hq (w:=w) (S:=S) (β:=β) (t:=t) h;exact⟨pv,val,h1,by simp[xI,h2],h3⟩}
 ·rename_i l m;split at h
  ·(rename_i a b ha hb;obtain⟨vs,rfl,hl1,hr1⟩:=kC hx;obtain⟨us,rfl,hl2,hr2⟩:=kC hy;have e1:vs=(Zn a).toArray:=by have:=Wv ha (vs:=vs.toList) oM (λj hj=>by simpa using hr1 j hj);grind);have e2:us=(Zn b).toArray:=by have:=Wv hb (vs:=us.toList) oM (λj hj=>by simpa using hr2 j hj);grind
   obtain⟨r,h1,h2⟩:=h.h;grind [pH]
  grind
 ·split at h
  ·(rename_i hty;have hu:Pg.underlying t=some .bool:=by obtain⟨i,d,zv,h1,h2,h3,h4,h5,h6,h7,h8,h9⟩:=Xs hty;grind);split at h
   {rename_i a b ha hb;have e1:=s6 ha hx;have e2:=s6 hb hy;subst e1 e2;refine⟨_,_,h,?_,pH (λ_=>decide (a ()=b ()))⟩;simp[xI,binOp,Op.equal,Op.maxDepth,run_equalIn_bool' w 9999 t _ _ hu,En]};{rename_i a b ha hb;have e1:=s6 ha hx;have e2:=s6 hb hy;subst e1 e2;refine⟨_,_,h,?_,mW (λ_=>decide (a ()=b ()))⟩;simp[xI,binOp,Op.equal,Op.maxDepth,run_equalIn_bool' w 9999 t _ _ hu,En]};grind
  ·rename_i hty;obtain⟨e,hu⟩:=Tw hty;split at h
   ·rename_i a b ha hb;obtain⟨va,rfl,e1⟩:=aQ ha hx;obtain⟨vb,rfl,e2⟩:=aQ hb hy;cases hab:a || b with
    |false=>grind| true =>
     simp only[hab] at h;refine⟨_,_,h,?_,pH (λ_=>a&&b)⟩;subst e1 e2;simp[xI,binOp,Op.equal,Op.maxDepth,pF w 9999 t e _ _ hu hab]
   ·rename_i a b ha hb;obtain⟨va,rfl,e1⟩:=aQ ha hx;obtain⟨vb,rfl,e2⟩:=aQ hb hy;cases hab:a || b with
    |false=>grind| true =>
     simp only[hab] at h;refine⟨_,_,h,?_,mW (λ_=>a&&b)⟩;subst e1 e2;simp[xI,binOp,Op.equal,Op.maxDepth,pF w 9999 t e _ _ hu hab]
   grind
  grind
theorem WJ {t n:Nat}{fs:List (Nat×Nat×Bool)}{z:List PV}(ht:ty t=.st n fs z){i off sz:Nat}{ag:Bool}(hi:fs[i]?=some (off,sz,ag)):∃ (fields:Array Field) (f:Field),Pg.underlying t=some (.struct fields)/\fields[i]?=some f/\f.offset=off/\Pg.cellsOf f.type=sz/\gJ Pg f.type=ag/\0<sz:=by obtain⟨inf,fields,zs,h1,h2,_,_,_,hfs,_,hpos⟩:=Xr ht;grind
theorem bP {t n:Nat}{fs:List (Nat×Nat×Bool)}{z:List PV}(ht:ty t=.st n fs z){i off sz:Nat}{ag:Bool}(hi:fs[i]?=some (off,sz,ag))(b o:Nat):(Instr.fieldAt t (.pointer (some ⟨b,o,none⟩)) i).run Pg w=.ok (.pointer (some ⟨b,o+off,none⟩)) w:=by
 obtain⟨fields,f,hu,hf,hoff,hsz,_,hp⟩:=WJ ht hi;obtain⟨inf,h1,h2⟩:=qT (t:=f.type) oM;have h3:inf.size≠0:=by omega
 simp[Instr.fieldAt,run_underlying hu,hf,Instr.sureAddr,fieldPlace,uP h1,h3,jK,hoff]
theorem rM {t e:Nat}{j:TypeInfo}(hu:Pg.underlying t=some (.slice e))(hj:Pg.info? e=some j)(b o len cap:Nat)(k:IntKind)(i:Int)(h0:0<=i)(h1:i<(len:Int)):(Instr.indexAt t (.slice (some ⟨b,o,none⟩) len cap) (.int k i)).run Pg w=.ok (.pointer (some ⟨b,o+i.toNat*j.size,none⟩)) w:=by simp[Instr.indexAt,asIntOf,run_underlying hu,h0,h1,uP hj,jK]
theorem oP {t e len:Nat}{j:TypeInfo}(hu:Pg.underlying t=some (.array len e))(hj:Pg.info? e=some j)(b o:Nat)(k:IntKind)(i:Int)(h0:0<=i)(h1:i<(len:Int)):(Instr.indexAt t (.pointer (some ⟨b,o,none⟩)) (.int k i)).run Pg w=.ok (.pointer (some ⟨b,o+i.toNat*j.size,none⟩)) w:=by simp[Instr.indexAt,asIntOf,run_underlying hu,h0,h1,uP hj,jK,Instr.sureAddr]
theorem YR {t e:Nat}(hu:Pg.underlying t=some (.slice e))(x:Value)(lo hi:Option Value):(Instr.sliceAt t x lo hi none).run Pg w=(Instr.slice t x lo hi none).run Pg w:=by simp[Instr.sliceAt,run_underlying hu]
end
end Go.Proofs.YtboocdbmnfjomaaGreat
