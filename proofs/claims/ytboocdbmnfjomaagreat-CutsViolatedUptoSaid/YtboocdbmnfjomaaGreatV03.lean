/- A part of the proof: PmB. -/
import Derived.Test.YtboocdbmnfjomaaGreatV02
set_option linter.all false
namespace Go.Proofs.YtboocdbmnfjomaaGreat
open Go
inductive RepD (w:World) (S:Nat->Nat->Prop):Value->D->Prop
 |int (k n):RepD w S (.int k n) (.int k n)
 |bool (b):RepD w S (.bool b) (.bool b)
 |str (s):RepD w S (.string s) (.str s)
 |sl0 (a cap):RepD w S (.slice a 0 cap) (.sl [])
 |sl {b o cap s:Nat} {els:List (List D)} (vals:Nat->Nat->Value) (hne:els≠[]) (hcap:els.length<=cap) (hS:∀ i j,i<els.length->j<s->S b (o+i*s+j))
   (hs:∀ e,e∈els->e.length=s)
   (hc:∀ i j,i<els.length->j<s->w.cell? ⟨b,o+i*s+j,none⟩=some (vals i j))
   (h1:∀ i j,i<els.length->j<s->(vals i j).oneCell'=true)
   (hr:∀ i j,i<els.length->j<s->RepD w S (vals i j) ((els.getD i []).getD j .any)) :
   RepD w S (.slice (some ⟨b,o,none⟩) els.length cap) (.sl els)
 |any (v):RepD w S v .any
structure Bm where
 o:Nat->Option Nat
 r:Nat->Nat->Option Nat
instance:CoeFun Bm (λ_=>Nat->Option Nat):=⟨Bm.o⟩
def β0:Bm:=⟨λ_=>none,λ_ _=>none⟩
def Bm.ren (β:Bm) (h:Nat->Nat):Bm:=⟨λn=>β.o (h n),λn i=>β.r (h n) i⟩
inductive Rep (w:World) (S:Nat->Nat->Prop) (β:Bm):Value->PV->Prop
 |c {v pv} (hf:qT pv=true) (h:RepD w S v (toD pv)):Rep w S β v pv
 |nil:Rep w S β (.slice none 0 0) .nil
 |agg {vs:Array Value} {cs} (hl:vs.size=cs.length) (h:∀ j,j<cs.length->Rep w S β (vs.getD j undef) (cs.getD j .any)):Rep w S β (.agg vs) (.agg cs)
 |tup {vs:Array Value} {cs} (hl:vs.size=cs.length) (h:∀ j,j<cs.length->Rep w S β (vs.getD j undef) (cs.getD j .any)):Rep w S β (.tuple vs) (.tup cs)
 |fn {f} {vs:Array Value} {cs} (hl:vs.size=cs.length) (h:∀ j,j<cs.length->Rep w S β (vs.getD j undef) (cs.getD j .any)):Rep w S β (.func (.func f) #[] vs) (.fn f cs)
 |ptr {n off b} (hβ:β n=some b):Rep w S β (.pointer (some ⟨b,off,none⟩)) (.ptr n off)
 |aptr {n s i off b} (hβ:β n=some b):Rep w S β (.pointer (some ⟨b,i ()*s+off,none⟩)) (.aptr n s i off)
 |dptr {b o cs off} (vals:Nat->Value) (hS:∀ j,j<cs.length->S b (o+j)) (hf:yX qT cs=true) (hc:∀ j,j<cs.length->w.cell? ⟨b,o+j,none⟩=some (vals j))
   (hr:∀ j,j<cs.length->RepD w S (vals j) (toD (cs.getD j .any))):Rep w S β (.pointer (some ⟨b,o+off,none⟩)) (.dptr cs off)
 |osl {n s cap b:Nat} {o len:Unit->Nat} {vs:Array Value} {T:TypeId} (hβ:β n=some b) (hlc:len ()<=cap) (hb:w.heap[b]?=some (.cells vs T (0,0))) (hsz:(o ()+cap)*s<=vs.size) :
   Rep w S β (.slice (some ⟨b,o ()*s,none⟩) (len ()) cap) (.osl n s o len)
 |nilf:Rep w S β .nilFunc .nilf
 |nilp:Rep w S β (.pointer none) .nilp
 |emp (a):Rep w S β (.slice a 0 0) .emp
 |osl0 {a n s} {o len:Unit->Nat} (hβ:β n=none) (ho:o ()=0) (hl:len ()=0):Rep w S β (.slice a 0 0) (.osl n s o len)
structure Evo (S:Nat->Nat->Prop) (w w':World):Prop where
 same:∀ b i,S b i->w'.cell? ⟨b,i,none⟩=w.cell? ⟨b,i,none⟩
 shape:∀ (b:Nat) (vs:Array Value) (T:TypeId),w.heap[b]?=some (.cells vs T (0,0))->∃ vs':Array Value,w'.heap[b]?=some (.cells vs' T (0,0))/\vs'.size=vs.size
theorem rT {w w':World}{b:Nat}(h:w'.heap[b]?=w.heap[b]?)(o:Nat):w'.cell? ⟨b,o,none⟩=w.cell? ⟨b,o,none⟩:=by simp only[World.cell?,h]
theorem RepD.evo {w w':World}{S S':Nat->Nat->Prop}{v d}(h:RepD w S v d)(hs:∀ b i,S b i->w'.cell? ⟨b,i,none⟩=w.cell? ⟨b,i,none⟩)(hS:∀ b i,S b i->S' b i):RepD w' S' v d:=by
 induction h with
 |int k n=>exact .int k n| bool b=>exact .bool b| str s=>exact .str s| sl0 a cap=>exact .sl0 a cap| any v=>exact .any v| sl vals hne hcap hSb hsz hc h1 hr ih=>exact .sl vals hne hcap (λi j hi hj=>hS _ _ (hSb i j hi hj)) hsz (λi j hi hj=>(hs _ _ (hSb i j hi hj)).trans (hc i j hi hj)) h1 ih
theorem Rep.evo {w w':World}{S S':Nat->Nat->Prop}{β v pv}(h:Rep w S β v pv)(he:Evo S w w')(hS:∀ b i,S b i->S' b i):Rep w' S' β v pv:=by
 induction h with
 |c hf h=>exact .c hf (h.evo he.same hS)| nil=>exact .nil| agg hl _ ih=>exact .agg hl ih| tup hl _ ih=>exact .tup hl ih| fn hl _ ih=>exact .fn hl ih| ptr hβ=>exact .ptr hβ| aptr hβ=>exact .aptr hβ| dptr vals hSb hf hc hr=>exact .dptr vals (λj hj=>hS _ _ (hSb j hj)) hf (λj hj=>(he.same _ _ (hSb j hj)).trans (hc j hj)) (λj hj=>(hr j hj).evo he.same hS)| osl hβ hlc hb hsz =>
  obtain⟨vs',h1,h2⟩:=he.shape _ _ _ hb;exact .osl hβ hlc h1 oM
 |nilf=>exact .nilf| nilp=>exact .nilp| emp a=>exact .emp a| osl0 hβ ho hl=>exact .osl0 hβ ho hl
def kY (β:Bm) (d:Nat) (x:Option Nat):Bm:=⟨λn=>if n=d then x else β n,β.r⟩
theorem w4 {β:Bm}{d n:Nat}{x:Option Nat}(h:n≠d):kY β d x n=β n:=by simp[kY,h]
theorem y8 {β:Bm}{d:Nat}{x:Option Nat}:kY β d x d=x:=by simp[kY]
theorem Rep.place {w:World}{S:Nat->Nat->Prop}{β βf:Bm}(e:∀ m,βf m=β m){v pv}(h:Rep w S β v pv):Rep w S βf v pv:=by
 induction h with
 |c hf h=>exact .c hf h| nil=>exact .nil| agg hl _ ih=>exact .agg hl ih| tup hl _ ih=>exact .tup hl ih| fn hl _ ih=>exact .fn hl ih| ptr hβ=>exact .ptr (by grind)| aptr hβ=>exact .aptr (by grind)| dptr vals hSb hf hc hr=>exact .dptr vals hSb hf hc hr| osl hβ hlc hb hsz=>exact .osl (by grind) hlc hb hsz| nilf=>exact .nilf| nilp=>exact .nilp| emp a=>exact .emp a| osl0 hβ ho hl=>exact .osl0 (by grind) ho hl
theorem xS {f:PV->Bool}(hf:f .any=true):∀ {cs:List PV},yX f cs=true->∀ j,f (cs.getD j .any)=true
 |[],_,j=>by simp[hf]| c::cs,h,0=>by simp only[yX,xA] at h;grind| c::cs,h,j+1=>by simp only[yX,xA] at h;simpa using xS hf h.2 j
theorem aN {m n:Nat}(h:(!(nqb m n))=true):m≠n:=by intro e;simp_all
theorem Rep.upd0 {w:World}{S:Nat->Nat->Prop}{β v pv}{d:Nat}{x:Option Nat}(h:Rep w S β v pv)(hf:rf0 d pv=true):Rep w S (kY β d x) v pv:=by
 cases h with
 |c hc h=>exact .c hc h| nil=>exact .nil| agg hl h=>grind [rf0]| tup hl h=>grind [rf0]| fn hl h=>grind [rf0]| ptr hβ=>exact .ptr (by grind [w4,aN,rf0])| aptr hβ=>exact .aptr (by grind [w4,aN,rf0])| dptr vals hSb hf' hc hr=>exact .dptr vals hSb hf' hc hr| osl hβ hlc hb hsz=>exact .osl (by grind [w4,aN,rf0]) hlc hb hsz| nilf=>exact .nilf| nilp=>exact .nilp| emp a=>exact .emp a| osl0 hβ ho hl=>exact .osl0 (by grind [w4,aN,rf0]) ho hl
theorem Rep.upd1 {w:World}{S:Nat->Nat->Prop}{β v pv}{d:Nat}{x:Option Nat}(h:Rep w S β v pv)(hf:rf1 d pv=true):Rep w S (kY β d x) v pv:=by
 cases h with
 |agg hl h=>exact .agg hl λj hj=>(h j hj).upd0 (xS (by rfl) (by grind [rf1]) j)| tup hl h=>exact .tup hl λj hj=>(h j hj).upd0 (xS (by rfl) (by grind [rf1]) j)| fn hl h=>exact .fn hl λj hj=>(h j hj).upd0 (xS (by rfl) (by grind [rf1]) j)| c hc h=>exact .c hc h| nil=>exact .nil| ptr hβ=>exact (Rep.ptr hβ).upd0 hf| aptr hβ=>exact (Rep.aptr hβ).upd0 hf| dptr vals hSb hf' hc hr=>exact .dptr vals hSb hf' hc hr| osl hβ hlc hb hsz=>exact (Rep.osl hβ hlc hb hsz).upd0 hf| nilf=>exact .nilf| nilp=>exact .nilp| emp a=>exact .emp a| osl0 hβ ho hl=>exact (Rep.osl0 hβ ho hl).upd0 hf
theorem Rep.upd {w:World}{S:Nat->Nat->Prop}{β v pv}{d:Nat}{x:Option Nat}(h:Rep w S β v pv)(hf:xN d pv=true):Rep w S (kY β d x) v pv:=by
 cases h with
 |agg hl h=>exact .agg hl λj hj=>(h j hj).upd1 (xS (by rfl) (by grind [xN]) j)| tup hl h=>exact .tup hl λj hj=>(h j hj).upd1 (xS (by rfl) (by grind [xN]) j)| fn hl h=>exact .fn hl λj hj=>(h j hj).upd1 (xS (by rfl) (by grind [xN]) j)| c hc h=>exact .c hc h| nil=>exact .nil| ptr hβ=>exact (Rep.ptr hβ).upd0 hf| aptr hβ=>exact (Rep.aptr hβ).upd0 hf| dptr vals hSb hf' hc hr=>exact .dptr vals hSb hf' hc hr| osl hβ hlc hb hsz=>exact (Rep.osl hβ hlc hb hsz).upd0 hf| nilf=>exact .nilf| nilp=>exact .nilp| emp a=>exact .emp a| osl0 hβ ho hl=>exact (Rep.osl0 hβ ho hl).upd0 hf
theorem vK {n:Nat}:∀ {l:List Nat},yM n l=true->n∈l
 |[],h=>by grind [yM]| m::r,h=>by simp only[yM,QL] at h;rcases h with h|h;{simp_all};{exact w6 _ (vK h)}
section
variable {w:World} {S:Nat->Nat->Prop} {β β':Bm} {l:List Nat}
theorem Rep.nm0 {v pv}(hl:∀ n,n∈l->β' n=β n)(h:Rep w S β v pv)(hf:nm0 l pv=true):Rep w S β' v pv:=by
 cases h with
 |c hc h=>exact .c hc h| nil=>exact .nil| agg _ h=>simp[Go.Proofs.YtboocdbmnfjomaaGreat.nm0] at hf| tup _ h=>simp[Go.Proofs.YtboocdbmnfjomaaGreat.nm0] at hf| fn _ h=>simp[Go.Proofs.YtboocdbmnfjomaaGreat.nm0] at hf| ptr hβ=>exact .ptr (by rw[hl _ (vK (by simpa only [Go.Proofs.YtboocdbmnfjomaaGreat.nm0] using hf))];exact hβ)| aptr hβ=>exact .aptr (by rw[hl _ (vK (by simpa only [Go.Proofs.YtboocdbmnfjomaaGreat.nm0] using hf))];exact hβ)| dptr vals hSb hf' hc hr=>exact .dptr vals hSb hf' hc hr| osl hβ hlc hb hsz=>exact .osl (by rw[hl _ (vK (by simpa only [Go.Proofs.YtboocdbmnfjomaaGreat.nm0] using hf))];exact hβ) hlc hb hsz| nilf=>exact .nilf| nilp=>exact .nilp| emp a=>exact .emp a| osl0 hβ ho h=>exact .osl0 (by rw[hl _ (vK (by simpa only [Go.Proofs.YtboocdbmnfjomaaGreat.nm0] using hf))];exact hβ) ho h
theorem Rep.nm1 {v pv}(hl:∀ n,n∈l->β' n=β n)(h:Rep w S β v pv)(hf:nm1 l pv=true):Rep w S β' v pv:=by
 cases h with
 |agg hs h=>exact .agg hs λj hj=>(h j hj).nm0 hl (xS (by rfl) (by simpa only [Go.Proofs.YtboocdbmnfjomaaGreat.nm1] using hf) j)| tup hs h=>exact .tup hs λj hj=>(h j hj).nm0 hl (xS (by rfl) (by simpa only [Go.Proofs.YtboocdbmnfjomaaGreat.nm1] using hf) j)| fn hs h=>exact .fn hs λj hj=>(h j hj).nm0 hl (xS (by rfl) (by simpa only [Go.Proofs.YtboocdbmnfjomaaGreat.nm1] using hf) j)| c hc h=>exact .c hc h| nil=>exact .nil| ptr hβ=>exact (Rep.ptr hβ).nm0 hl hf| aptr hβ=>exact (Rep.aptr hβ).nm0 hl hf| dptr vals hSb hf' hc hr=>exact .dptr vals hSb hf' hc hr| osl hβ hlc hb hsz=>exact (Rep.osl hβ hlc hb hsz).nm0 hl hf| nilf=>exact .nilf| nilp=>exact .nilp| emp a=>exact .emp a| osl0 hβ ho h=>exact (Rep.osl0 hβ ho h).nm0 hl hf
theorem Rep.nmIn {v pv}(hl:∀ n,n∈l->β' n=β n)(h:Rep w S β v pv)(hf:nmIn l pv=true):Rep w S β' v pv:=by
 cases h with
 |agg hs h=>exact .agg hs λj hj=>(h j hj).nm1 hl (xS (by rfl) (by simpa only [Go.Proofs.YtboocdbmnfjomaaGreat.nmIn] using hf) j)| tup hs h=>exact .tup hs λj hj=>(h j hj).nm1 hl (xS (by rfl) (by simpa only [Go.Proofs.YtboocdbmnfjomaaGreat.nmIn] using hf) j)| fn hs h=>exact .fn hs λj hj=>(h j hj).nm1 hl (xS (by rfl) (by simpa only [Go.Proofs.YtboocdbmnfjomaaGreat.nmIn] using hf) j)| c hc h=>exact .c hc h| nil=>exact .nil| ptr hβ=>exact (Rep.ptr hβ).nm0 hl hf| aptr hβ=>exact (Rep.aptr hβ).nm0 hl hf| dptr vals hSb hf' hc hr=>exact .dptr vals hSb hf' hc hr| osl hβ hlc hb hsz=>exact (Rep.osl hβ hlc hb hsz).nm0 hl hf| nilf=>exact .nilf| nilp=>exact .nilp| emp a=>exact .emp a| osl0 hβ ho h=>exact (Rep.osl0 hβ ho h).nm0 hl hf
end
def RowAt (w:World) (S:Nat->Nat->Prop) (β:Bm) (n s:Nat) (els:Unit->List (List D)):Prop :=
 (β n=none/\els ()=[])\/∃ (b:Nat) (vs:Array Value) (T:TypeId),β n=some b/\w.heap[b]?=some (.cells vs T (0,0))/\(els ()).length*s<=vs.size/\(∀ e,e∈els ()->e.length=s) /\
   ∀ i j,i<(els ()).length->j<s->RepD w S (vs.getD (i*s+j) undef) (((els ()).getD i []).getD j .any)/\(vs.getD (i*s+j) undef).oneCell'=true
def Stb (S:Nat->Nat->Prop) (β:Bm) (n k:Nat):Prop:=∀ b,β n=some b->∀ i,i<k->S b i
theorem Stb.mono {S S':Nat->Nat->Prop}{β:Bm}{n k:Nat}(h:Stb S β n k)(hS:∀ b i,S b i->S' b i):Stb S' β n k:=λb hb i hi=>hS _ _ (h b hb i hi)
def vG (o:Obj') (i:Nat):Prop :=
 match o with
 |.mat _ rows hs=>i<(rows ()).length/\∀ v k,(v,k)∈hs->k ()≠i| _=>False
def Own (β:Bm) (n:Nat) (o:Obj') (b:Nat):Prop:=β n=some b\/∃ i,vG o i/\β.r n i=some b
def RowIn (w:World) (S:Nat->Nat->Prop) (ob:Option Nat) (v:Value) (s:Nat) (els:List (List D)):Prop :=
 (ob=none/\els=[]/\∃ a,v=.slice a 0 0)\/∃ (b cap:Nat) (us:Array Value) (T:TypeId),ob=some b/\v=.slice (some ⟨b,0,none⟩) els.length cap/\els.length<=cap/\w.heap[b]?=some (.cells us T (0,0))/\cap*s<=us.size/\(∀ e,e∈els->e.length=s) /\
   ∀ i j,i<els.length->j<s->RepD w S (us.getD (i*s+j) undef) ((els.getD i []).getD j .any)/\(us.getD (i*s+j) undef).oneCell'=true
structure MatAt (w:World) (S:Nat->Nat->Prop) (β:Bm) (n s:Nat) (rows:Unit->List (List (List D))) (hs:List (PV×(Unit->Nat))):Prop where
 pl:(β n=none/\rows ()=[]/\hs=[])\/∃ (b:Nat) (vs:Array Value) (T:TypeId),β n=some b/\w.heap[b]?=some (.cells vs T (0,0))/\(rows ()).length<=vs.size /\
   (∀ v k,(v,k)∈hs->k ()<(rows ()).length/\Rep w S β (vs.getD (k ()) undef) v)/\∀ i,vG (.mat s rows hs) i->RowIn w S (β.r n i) (vs.getD i undef) s ((rows ()).getD i [])
 inj:∀ i j b,vG (.mat s rows hs) i->vG (.mat s rows hs) j->β.r n i=some b->β.r n j=some b->i=j
 ne:∀ i b,vG (.mat s rows hs) i->β.r n i=some b->β n≠some b
def ObjAt (w:World) (S:Nat->Nat->Prop) (β:Bm) (n:Nat):Obj'->Prop
 |.box cs=>∃ (b:Nat) (vs:Array Value) (T:TypeId),β n=some b/\w.heap[b]?=some (.cells vs T (0,0))/\vs.size=cs.length/\∀ j,j<cs.length->Rep w S β (vs.getD j undef) (cs.getD j .any)| .arr s els=>RowAt w S β n s els| .log s els=>RowAt w S β n s els| .lent s els=>RowAt w S β n s els/\Stb S β n ((els ()).length*s)| .mat s rows hs=>MatAt w S β n s rows hs
def j3:Obj'->Nat->Prop
 |.log s els,i=>i<(els ()).length*s| .lent s els,i=>i<(els ()).length*s| _,_=>False
structure ObjsAt (w:World) (S:Nat->Nat->Prop) (β:Bm) (objs:List (Nat×Obj')):Prop where
 nd:(objs.map Prod.fst).Nodup
 at_:∀ n o,(n,o)∈objs->ObjAt w S β n o
 un:∀ n o b,(n,o)∈objs->Own β n o b->(∀ i,S b i->j3 o i)/\b<w.heap.size
 inj:∀ n o m o' b,(n,o)∈objs->(m,o')∈objs->Own β n o b->Own β m o' b->n=m
theorem xF {β:Bm}{n:Nat}{o:Obj'}{b:Nat}(ho:∀ i,¬vG o i)(h:Own β n o b):β n=some b:=by
 rcases h with h|⟨i,h1,_⟩
 all_goals grind
theorem w9 {β:Bm}{n m:Nat}{x:Option Nat}{o:Obj'}{b:Nat}(h:m≠n)(ho:Own (kY β n x) m o b):Own β m o b:=by rcases ho with ho|ho;{exact .inl (by grind [w4])};{exact .inr ho}
structure Leads (w0:World) (S0:Nat->Nat->Prop) (K0:Nat->Prop) (w:World) (S:Nat->Nat->Prop):Prop where
 size:w0.heap.size<=w.heap.size
 os:w.os=w0.os
 tape:w.tape=w0.tape
 output:w.output=w0.output
 same:∀ b,b<w0.heap.size->¬K0 b->w.heap[b]?=w0.heap[b]?
 shape:∀ (b:Nat) (vs:Array Value) (T:TypeId),w0.heap[b]?=some (.cells vs T (0,0))->∃ vs':Array Value,w.heap[b]?=some (.cells vs' T (0,0))/\vs'.size=vs.size
 bnd:∀ b i,S b i->b<w.heap.size
 sub:∀ b i,b<w0.heap.size->S0 b i->S b i
 old:∀ b i,b<w0.heap.size->¬K0 b->S b i->S0 b i
def Blk (β:Bm) (objs:List (Nat×Obj')) (b:Nat):Prop:=∃ n o,(n,o)∈objs/\Own β n o b
structure Sound (f:FuncId) (args:List PV) (kept eaten:List (Nat×Obj')) (r:PV) (kept' made:List (Nat×Obj')):Prop where
 isf:∀ (vals:Array Value) (w:World),(callFunc f vals).run Pg w=.ok (.enter f vals) w
 go:∀ (w:World) (S:Nat->Nat->Prop) (β:Bm) (vals:Array Value),(∀ b i,S b i->b<w.heap.size)->ObjsAt w S β (kept++eaten) ->
  vals.size=args.length->(∀ j,j<args.length->Rep w S β (vals.getD j undef) (args.getD j .any)) ->
  Calls Pg f vals w λe w'=>∃ v S' β',e=.returned v/\Leads w S (Blk β (kept++eaten)) w' S'/\Rep w' S' β' v r/\ObjsAt w' S' β' (kept'++made) /\
   (kept'.map Prod.fst=kept.map Prod.fst)/\(∀ n o,(n,o)∈kept->β' n=β n) /\
   (∀ n o b,(n,o)∈kept'++made->Own β' n o b->w.heap.size<=b\/Blk β (kept++eaten) b)
abbrev zH (f:FuncId) (args:List PV) (r:PV):Prop:=Sound f args [] [] r [] []
mutual
def Le:PV->PV->Prop
 |_,.any=>True| .nil,.sl els=>els ()=[]| .nil,.emp=>True| .emp,.sl els=>els ()=[]| .sl els,.sl els'=>els ()=els' ()| .tt,.bool b=>b ()=true| .ff,.bool b=>b ()=false| .bool a,.bool b=>a ()=b ()| .bool a,.tt=>a ()=true| .bool a,.ff=>a ()=false| .nbool a,.tt=>a ()=false| .nbool a,.ff=>a ()=true| .nbool a,.nbool b=>a ()=b ()| .nbool a,.bool b=>b ()=!(a ())| .agg a,.agg b=>LeL a b| .tup a,.tup b=>LeL a b| .fn f a,.fn g b=>f=g/\LeL a b| .int k n,.int k' n'=>k=k'/\n ()=n' ()| .osl n s o l,.osl n' s' o' l'=>(n=n'/\s=s')/\(o ()=o' ()/\l ()=l' ())| .aptr n s i o,.aptr n' s' i' o'=>(n=n'/\s=s')/\(i ()=i' ()/\o=o')| a,b=>a=b
def LeL:List PV->List PV->Prop
 |[],[]=>True| a::r,b::q=>Le a b/\LeL r q| _,_=>False
end
theorem fU {α:Type}{f g:Unit->α}(h:f ()=g ()):f=g:=funext λ_=>h
theorem uS:∀ {a b:List PV},LeL a b->a.length=b.length
 |[],[],_=>rfl| x::a,y::b,h=>by simp[LeL] at h;simp[uS h.2]| [],y::b,h=>by grind [LeL]| x::a,[],h=>by grind [LeL]
theorem pL:∀ {a b:List PV},LeL a b->∀ j,j<b.length->Le (a.getD j .any) (b.getD j .any)
 |[],[],_,j,hj=>by grind| x::a,y::b,h,0,_=>by grind [LeL]| x::a,y::b,h,j+1,hj=>by simp[LeL] at h;simpa using pL h.2 j (by grind)| [],y::b,h,_,_=>by grind [LeL]| x::a,[],h,_,_=>by grind
mutual
theorem Le.refl:∀ a:PV,Le a a
 |.int k n=>by simp[Le]| .tt=>by simp[Le]| .ff=>by simp[Le]| .bool b=>by simp[Le]| .nbool b=>by simp[Le]| .str s=>by simp[Le]| .nil=>by simp[Le]| .sl els=>by simp[Le]| .agg cs=>by simp[Le];exact LeL.refl cs| .tup cs=>by simp[Le];exact LeL.refl cs| .ptr n o=>by simp[Le]| .aptr n s i o=>by simp[Le]| .dptr cs o=>by simp[Le]| .osl n s o l=>by simp[Le]| .fn f cs=>by simp[Le];exact LeL.refl cs| .nilf=>by simp[Le]| .nilp=>by simp[Le]| .emp=>by simp[Le]| .any=>by simp[Le]
theorem LeL.refl:∀ a:List PV,LeL a a
 |[]=>by simp[LeL]| x::a=>by simp only[LeL];exact⟨Le.refl x,LeL.refl a⟩
end
theorem SW {a b:PV}(ha:qT a=true)(h:Le a b):qT b=true/\(toD b=toD a\/toD b=.any):=by
 cases b with
 |any=>exact⟨rfl,.inr rfl⟩
 |_=>cases a <;> simp[qT] at ha <;> simp only[Le] at h <;> first
  |(cases h;done)
  |(refine⟨rfl,.inl ?_⟩;simp_all [toD];done)
  |(subst h;exact⟨rfl,.inl rfl⟩)
theorem Rep.le {w:World}{S:Nat->Nat->Prop}{β v a}(h:Rep w S β v a):∀ b,Le a b->Rep w S β v b:=by
 induction h with
 |c hf h =>
  intro b hab;obtain⟨h1,h2|h2⟩:=SW hf hab;{exact .c h1 (h2 ▸ h)};{exact .c h1 (h2 ▸ .any _)}
 |nil =>
  intro b hab;cases b with
  |any=>exact .c rfl (.any _)| nil=>exact .nil| emp=>exact .emp _| sl els=>simp only[Le] at hab;exact .c rfl (by simp only[toD,hab];exact .sl0 _ _)| _=>simp[Le] at hab
 |agg hl h ih =>
  intro b hab;cases b with
  |any=>exact .c rfl (.any _)| agg bs=>simp only[Le] at hab;exact .agg (hl.trans (uS hab)) λj hj=>ih j (by grind [uS]) _ (pL hab j hj)| _=>simp[Le] at hab
 |tup hl h ih =>
  intro b hab;cases b with
  |any=>exact .c rfl (.any _)| tup bs=>simp only[Le] at hab;exact .tup (hl.trans (uS hab)) λj hj=>ih j (by grind [uS]) _ (pL hab j hj)| _=>simp[Le] at hab
 |fn hl h ih =>
  intro b hab;cases b with
  |any=>exact .c rfl (.any _)| fn g bs =>
   simp only[Le] at hab;obtain⟨rfl,hab⟩:=hab;exact .fn (hl.trans (uS hab)) λj hj=>ih j (by grind [uS]) _ (pL hab j hj)
  |_=>simp[Le] at hab
 |ptr hβ=>intro b hab;cases b <;> simp only[Le] at hab <;> first|(exact .c rfl (.any _))|(cases hab;exact .ptr hβ)|cases hab
 |aptr hβ =>
  intro b hab;cases b <;> simp only[Le] at hab <;> first
   |(exact .c rfl (.any _))
   |(obtain⟨⟨rfl,rfl⟩,h1,rfl⟩:=hab;cases fU h1;exact .aptr hβ)
   |cases hab
 |dptr vals hSb hf hc hr=>intro b hab;cases b <;> simp only[Le] at hab <;> first|(exact .c rfl (.any _))|(cases hab;exact .dptr vals hSb hf hc hr)|cases hab
 |osl hβ hlc hb hsz =>
  intro b hab;cases b <;> simp only[Le] at hab <;> first
   |(exact .c rfl (.any _))
   |(obtain⟨⟨rfl,rfl⟩,h1,h2⟩:=hab;cases fU h1;cases fU h2;exact .osl hβ hlc hb hsz)
   |cases hab
 |nilf=>intro b hab;cases b <;> simp only[Le] at hab <;> first|(exact .c rfl (.any _))|(exact .nilf)|cases hab
 |nilp=>intro b hab;cases b <;> simp only[Le] at hab <;> first|(exact .c rfl (.any _))|(exact .nilp)|cases hab
 |emp a =>
  intro b hab;cases b with
  |any=>exact .c rfl (.any _)| emp=>exact .emp a| sl els=>simp only[Le] at hab;exact .c rfl (by simp only[toD,hab];exact .sl0 _ _)| _=>simp[Le] at hab
 |osl0 hβ ho hl =>
  intro b hab;cases b <;> simp only[Le] at hab <;> first
   |(exact .c rfl (.any _))
   |(obtain⟨⟨rfl,rfl⟩,h1,h2⟩:=hab;cases fU h1;cases fU h2;exact .osl0 hβ ho hl)
   |cases hab
end Go.Proofs.YtboocdbmnfjomaaGreat
