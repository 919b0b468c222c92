/- A part of the proof: SnB, SyG. -/
import Derived.Test.YtfainocfaddbdaaGreatT32
set_option linter.all false
namespace Go.Proofs.YtfainocfaddbdaaGreat
open Go
set_option maxRecDepth 100000
set_option maxHeartbeats 4000000
theorem zBK {P:Program}(w:World){o:Oper}{a:Act}{K:Act->World->Prop}{Q:Exit->Act->World->Prop}(d s:Operand)(t t':TypeId) (ho:o.op=.call { callee:=.builtin .copy,args:=#[d,s],argTypes:=#[t,t'] }) (v u:Value) (hd:a.eval d=v) (hs:a.eval s=u) {v':Value} {w':World} (hr:(Builtin.copy_ #[t,t'] o.type #[v,u]).run P w=.ok v' w') (h:K (a.put o.dst v') w'):o.wp P a w K Q:=by unfold Oper.wp execOp;simp only[ho,resolve,invoke,builtin,Sem.run_bind,Sem.run_pure,Result.andThen_ok,List.map_toArray,List.map_cons,List.map_nil,hd,hs,hr];exact h
theorem cV {P:Program}(w:World){ops:Array Oper}{rest:List Oper}{o:Oper}{a:Act}{Q:Exit->Act->World->Prop}(hgd:o.guard=none)(d s:Operand)(t t':TypeId) (ho:o.op=.call { callee:=.builtin .copy,args:=#[d,s],argTypes:=#[t,t'] }) (v u:Value) (hd:a.eval d=v) (hs:a.eval s=u) {v':Value} {w':World} (hr:(Builtin.copy_ #[t,t'] o.type #[v,u]).run P w=.ok v' w') (h:wpList P ops Q rest (a.put o.dst v') w'):wpList P ops Q (o::rest) a w :=
 wpList_plain hgd fun _ hK=>zBK w d s t t' ho v u hd hs hr (hK _ _ h)
theorem a8 {P:Program}{ops:Array Oper}{o:Oper}{a:Act}{w:World}{K:Act->World->Prop}{Q:Exit->Act->World->Prop}{E:Prop} (hg:o.guard=none) (d x:Operand) (dT sT:TypeId) (hop:o.op=Op.call { callee:=Callee.builtin Builtin.copy,args:=#[d,x],argTypes:=#[dT,sT] }) (v u:Value) (hd:a.eval d=v) (hx:a.eval x=u) {v':Value} {w':World} (hr:(Builtin.copy_ #[dT,sT] o.type #[v,u]).run P w=.ok v' w') (hK:K (a.put o.dst v') w'):if Region.wanted o (yielded ops a.tmps)=true then Oper.wp P o a w K Q else E:=by
 have hw:Region.wanted o (yielded ops a.tmps)=true:=by simp[Region.wanted,hg]
 rw[if_pos hw];unfold Oper.wp;simp[execOp,hop,resolve,invoke,builtin,hd,hx,hr,Result.andThen];exact hK
theorem jN {P:Program}(w:World)(dT sT ty elem:TypeId)(i:TypeInfo)(b o dLen dCap:Nat)(T:TypeId){cur:Array Value}(a:Addr)(sLen sCap:Nat)(cs:List Value)(hu:P.underlying dT=some (.slice elem))(hi:P.info? elem=some i) (hg:w.heap[b]?=some (.cells cur T (0,0))) (hn:cs.length=Nat.min sLen dLen*i.size) (hsrc:∀ j v,cs[j]?=some v->w.cell? (a.add j)=some v) (hfit:o+cs.length<=cur.size) (h1:∀ v,v∈cs->v.oneCell'=true):(Builtin.copy_ #[dT,sT] ty #[.slice (some ⟨b,o,none⟩) dLen dCap,.slice (some a) sLen sCap]).run P w=.ok (goInt (Nat.min sLen dLen:Nat)) (w.setRow b (wr cur o cs)):=by have hl:=run_loadCells_list (P:=P) w a cs hsrc;have hst:=run_storeCells_at P b o T cs 0 cur w hg (by simpa using hfit) h1;simp only[Nat.add_zero] at hst;simp[Builtin.copy_,run_underlying hu,Builtin.lenOf,Builtin.firstCells,sizeOf,typeInfo,hi,<-hn,hl,hst,wr]
theorem tK {P:Program}(w:World)(tS tR e:TypeId)(ht:P.underlying tS=some (.slice e))(size:Nat)(hz:∀ w,(Go.sizeOf e).run P w=.ok size w) (a b:Addr) (la ca lb cb:Nat) (hne:a.block≠b.block) {v:Value} (hca:w.cell? a=some v) {vs:Array Value} {T:TypeId} (hb:w.heap[b.block]?=some (.cells vs T (0,0))) (hv:vs.size≠0):(Extern.SlicesOverlaps.overlaps #[tS,tS] #[tR] #[.slice (some a) la ca,.slice (some b) lb cb]).run P w=.ok (.bool false) w:=by
 obtain⟨tA,kA,hsa,hkA⟩:∃ tA kA,w.shape? a.block=some (tA,kA)/\kA≠0:=by unfold World.cell? at hca;split at hca;{rename_i c t fz hc;refine⟨t,c.size,by unfold World.shape?;rw[hc],fun h0=>?_⟩;split at hca;{cases hca};{rw[Array.getElem?_eq_none (by omega)] at hca;cases hca}};{cases hca}
 have hsb:w.shape? b.block=some (T,vs.size):=by unfold World.shape?;rw[hb]
 have hfb:∀ o,w.frozen? ⟨b.block,o,none⟩=false:=fun o=>by unfold World.frozen?;rw[hb];simp
 have hfb':w.frozen? b=false:=by unfold World.frozen?;rw[hb];simp
 have hnb:(a.block != b.block)=true:=by simpa using hne
 have hnb':(a.block == b.block)=false:=by simpa using hne
 change Sem.run P (α:=Value) (do
  let some t := (#[tS, tS] : Array TypeId)[0]? | stuck "slices.overlaps: no parameter types"
  let .slice elem <- underlying t | stuck "slices.overlaps: slice type expected"
  let size <-sizeOf elem
  match (some a:Option Addr),(some b:Option Addr) with
  |some a,some b =>
   if la=0\/lb=0\/size=0 then pure (Value.bool false)
   else if a.block != b.block&&(<-frozen a)&&(<-frozen b) then unsupported .addressObserved
   else do
    if a.block != b.block then do
     noView a;noView b
     if <- mayBeOne a b then return Value.bool ((<- choose (.extern "sameAddr.stringBytes" 2)) == 1)
    pure (Value.bool (a.block == b.block&&a.off<b.off+lb*size&&b.off<a.off+la*size))
  |_,_=>pure (Value.bool false)) w=_
 by_cases h0:la=0\/lb=0\/size=0;{simp[run_underlying ht,hz,h0]}
 ·cases kA with
  |zero=>exact absurd rfl hkA| succ kA =>
   obtain⟨q,hq⟩:∃ q,vs.size=q+1:=⟨vs.size-1,by omega⟩;rw[hq] at hsb;cases h1:w.frozen? a <;> cases h2:w.frozen? ⟨a.block,kA+1,none⟩ <;> simp[run_underlying ht,hz,h0,hnb,hnb',frozen,noView,viewAt,mayBeOne,stringish,shape,Sem.run,hsa,hsb,hfb,hfb',h1,h2]
theorem zEB (b n i cap:Nat)(vs:Array Value)(T:TypeId)(w:World)(hb:w.heap[b]?=some (.cells vs T (0,0)))(hi:i<n)(hroom:n+1<=cap)(hsz:cap*3<=vs.size)(hn40:n<2^40)(h1:∀ k,k<n*3->(vs.getD k undef).oneCell'=true) (vb vo vc:Nat) (XS:List Value) (hxl:XS.length=3) (hA:vb≠b) (hxs:∀ j v,XS[j]?=some v->w.cell? ⟨vb,vo+j,none⟩=some v) (hx1:∀ v,v∈XS->v.oneCell'=true):Calls Tryz.prog 89 #[.slice (some ⟨b,0,none⟩) n cap,.int .i64 (i:Int),.slice (some ⟨vb,vo,none⟩) 1 vc] w fun e w'=>e=.returned (.slice (some ⟨b,0,none⟩) (n+1) cap) /\ w'=(w.drew.setRow b (wr vs ((i+1)*3) ((vs.toList.take (n*3)).drop (i*3)))).setRow b (wr (wr vs ((i+1)*3) ((vs.toList.take (n*3)).drop (i*3))) (i*3) XS):=by
 have t0:=Tryz.underlying34;have t1:=Tryz.typeInfo27;have mixed:Tryz.prog.follows .mixedOrders=true:=by kernel_rfl
 obtain⟨i0,hi0,hz0,hz1,hz2⟩:=info_parts (P:=Tryz.prog) (e:=27) (z:=.agg #[.bool false,.slice none 0 0,.slice none 0 0]) (size:=3) (bytes:=56) (by kernel_rfl);obtain⟨OLD,hOLD⟩:∃ l,(vs.toList.take (n*3)).drop (i*3)=l:=⟨_,rfl⟩;rw[hOLD];have hol:OLD.length=(n-i)*3:=by rw[<-hOLD];simp;omega
 have hog:∀ (t:Nat) u,OLD[t]?=some u->i*3+t<n*3/\vs.getD (i*3+t) undef=u:=fun t u hu=>by
  (have ht:t<OLD.length:=(List.getElem?_eq_some_iff.1 hu).1;rw[<-hOLD,List.getElem?_drop,List.getElem?_take_of_lt (by omega)] at hu;have h2:vs[i*3+t]?=some u:=by simpa using hu);exact⟨by omega,by simp[h2]⟩
 have ho1:∀ u,u∈OLD->u.oneCell'=true:=fun u hu=>by obtain⟨t,ht⟩:=List.mem_iff_getElem?.1 hu;have:=hog t u ht;rw[<-this.2];exact h1 _ this.1
 have hov:∀ lb cb,(callFunc 134 #[.slice (some ⟨vb,vo,none⟩) 1 vc,.slice (some ⟨b,(i+1)*3,none⟩) lb cb]).run Tryz.prog w=.ok (.value (.bool false)) w:=fun lb cb=>by
  obtain⟨x,hx⟩:∃ x,XS[0]?=some x:=⟨XS[0],by simp⟩;have hc0:=hxs 0 x hx;rw[run_callFunc_extern Tryz.func134 (by kernel_rfl) (by kernel_rfl) (by kernel_rfl) (e:=Extern.SlicesOverlaps.overlaps #[34,34] #[4]) (by kernel_rfl),
   tK w 34 4 27 t0 3 (fun w=>by simp[sizeOf,typeInfo,hi0,hz1]) ⟨vb,vo,none⟩ ⟨b,(i+1)*3,none⟩ 1 vc lb cb hA hc0 hb (by omega)]
  rfl
 have hcp1:∀ ty dc sc,(Builtin.copy_ #[34,34] ty #[.slice (some ⟨b,(i+1)*3,none⟩) (n+1-(i+1)) dc,.slice (some ⟨b,i*3,none⟩) (n+1-i) sc]).run Tryz.prog w.drew=.ok (goInt (Nat.min (n+1-i) (n+1-(i+1)):Nat)) (w.drew.setRow b (wr vs ((i+1)*3) OLD)):=fun ty dc sc =>
  jN w.drew _ _ ty 27 i0 b ((i+1)*3) (n+1-(i+1)) dc T ⟨b,i*3,none⟩ (n+1-i) sc OLD t0 hi0 hb (by rw[hol,hz1];show _=min (n+1-i) (n+1-(i+1))*3;rw[Nat.min_eq_right (by omega)];congr 1;omega)
   (fun j v hj=>by have h2:=hog j v hj;have h3:=vM (w:=w.drew) hb (i*3+j) (by omega);rw[h2.2] at h3;rw[Addr.add_lit];exact h3) (by rw[hol];omega) ho1
 obtain⟨W1,hW1⟩:∃ W1,w.drew.setRow b (wr vs ((i+1)*3) OLD)=W1:=⟨_,rfl⟩;rw[hW1] at hcp1 ⊢;have hb1:W1.heap[b]?=some (.cells (wr vs ((i+1)*3) OLD) T (0,0)):=by rw[<-hW1];exact setRow_heap w.drew b vs _ T _ hb
 have hcp2:∀ ty dc,(Builtin.copy_ #[34,34] ty #[.slice (some ⟨b,i*3,none⟩) (n+1-i) dc,.slice (some ⟨vb,vo,none⟩) 1 vc]).run Tryz.prog W1=.ok (goInt (Nat.min 1 (n+1-i):Nat)) (W1.setRow b (wr (wr vs ((i+1)*3) OLD) (i*3) XS)):=fun ty dc =>
  jN W1 _ _ ty 27 i0 b (i*3) (n+1-i) dc T ⟨vb,vo,none⟩ 1 vc XS t0 hi0 hb1 (by rw[hxl,hz1];show _=min 1 (n+1-i)*3;rw[Nat.min_eq_left (by omega)])
   (fun j v hj=>by rw[Addr.add_lit];have:=hxs j v hj;rw[<-hW1];simp only[World.cell?,setRow_other w.drew b vb _ hA] at this ⊢;exact this) (by rw[hxl,wF (by rw[hol];omega)];omega) hx1
 have hz2':¬((i:Int)=(n:Int)):=by omega
 have hw1:IntKind.i64.wrap ((i:Int)+1)=(i:Int)+1:=by rw[IntKind.wrap_i64];omega
 have hw2:IntKind.i64.wrap ((n:Int)+1)=(n:Int)+1:=by rw[IntKind.wrap_i64];omega
 have hb2:(0:Int)<=(i:Int)+1:=by omega
 have hb3:(0:Int)<=(n:Int)+1:=by omega
 have hin:i<=n:=by omega
 have hin':(i:Int)<=(n:Int):=by omega
 have htn:((i:Int)+1).toNat=i+1:=by omega
 have htn2:((n:Int)+1).toNat=n+1:=by omega
 have hb4:¬(cap=i+1):=by omega
 have hb5:(i:Int)<=(n:Int)+1:=by omega
 have hb6:¬(cap=i):=by omega
 have hb7:(n:Int)+1<=(cap:Int):=by omega
 have hb8:¬((cap:Int)<(n:Int)+1):=by omega
 clear hb hsz h1 hOLD hol hog ho1 hxs hx1 hxl hW1 hb1
 go_enter Tryz.func89,Tryz.ntmps89
 go_wp2_with (simp only[hov])
 go_region_law (refine a8 rfl (.tmp 73) (.tmp 76) 34 34 rfl (.slice (some ⟨b,(i+1)*3,none⟩) (n+1-(i+1)) (cap-(i+1))) (.slice (some ⟨b,i*3,none⟩) (n+1-i) (cap-i)) (by simp[Act.eval,Act.put]) (by simp[Act.eval,Act.put]) (hcp1 _ _ _) ?_)
 go_wp2_with (at_builtin;refine cV _ rfl _ _ 34 34 rfl _ _ rfl rfl (hcp2 _ _) ?_)
 go_ret
 exact⟨rfl,rfl⟩
theorem zHB (b n i cap:Nat)(vs:Array Value)(T:TypeId)(w:World)(hb:w.heap[b]?=some (.cells vs T (0,0)))(hi:i<n)(hnc:n<=cap)(hroom:cap<n+1)(hsz:cap*3<=vs.size)(hn40:n<2^40)(h1:∀ k,k<n*3->(vs.getD k undef).oneCell'=true) (vb vo vc:Nat) (XS:List Value) (hxl:XS.length=3) (hxs:∀ j v,XS[j]?=some v->w.cell? ⟨vb,vo+j,none⟩=some v) (hx1:∀ v,v∈XS->v.oneCell'=true):Calls Tryz.prog 89 #[.slice (some ⟨b,0,none⟩) n cap,.int .i64 (i:Int),.slice (some ⟨vb,vo,none⟩) 1 vc] w fun e w'=>∃ (G:Nat) (ROW:Array Value) (w1 w2:World),n+1<=G/\ROW.size=G*3/\(∀ k,k<i*3->ROW.getD k undef=vs.getD k undef) /\ e=.returned (.slice (some ⟨w.heap.size,0,none⟩) (n+1) G)/\w1=w.drew.alloc (.cells ROW 27)/\w2=(w1.setRow w.heap.size (wr ROW (i*3) XS)).drew /\ w'=w2.setRow w.heap.size (wr (wr ROW (i*3) XS) ((i+1)*3) ((vs.toList.take (n*3)).drop (i*3))):=by
 have t0:=Tryz.underlying34;have t1:=Tryz.typeInfo27;have mixed:Tryz.prog.follows .mixedOrders=true:=by kernel_rfl
 obtain⟨i0,hi0,hz0,hz1,hz2⟩:=info_parts (P:=Tryz.prog) (e:=27) (z:=.agg #[.bool false,.slice none 0 0,.slice none 0 0]) (size:=3) (bytes:=56) (by kernel_rfl);obtain⟨OLD,hOLD⟩:∃ l,(vs.toList.take (n*3)).drop (i*3)=l:=⟨_,rfl⟩;rw[hOLD];have hol:OLD.length=(n-i)*3:=by rw[<-hOLD];simp;omega
 have hog:∀ (t:Nat) u,OLD[t]?=some u->i*3+t<n*3/\vs.getD (i*3+t) undef=u:=fun t u hu=>by
  (have ht:t<OLD.length:=(List.getElem?_eq_some_iff.1 hu).1;rw[<-hOLD,List.getElem?_drop,List.getElem?_take_of_lt (by omega)] at hu;have h2:vs[i*3+t]?=some u:=by simpa using hu);exact⟨by omega,by simp[h2]⟩
 have ho1:∀ u,u∈OLD->u.oneCell'=true:=fun u hu=>by obtain⟨t,ht⟩:=List.mem_iff_getElem?.1 hu;have:=hog t u ht;rw[<-this.2];exact h1 _ this.1
 have hbw:b<w.heap.size:=(Array.getElem?_eq_some_iff.1 hb).1;have hvw:vb<w.heap.size:=by obtain⟨x,hx⟩:∃ x,XS[0]?=some x:=⟨XS[0],by simp⟩;have hc0:=hxs 0 x hx;unfold World.cell? at hc0;split at hc0;{rename_i c t fz hc;exact (Array.getElem?_eq_some_iff.1 hc).1};{cases hc0}
 have hold:(Builtin.firstCells i0.size i (.slice (some ⟨b,0,none⟩) i cap)).run Tryz.prog w.drew=.ok (vs.toList.take (i*3)).toArray w.drew:=by
  refine run_firstCells_some w.drew i0.size i ⟨b,0,none⟩ i cap _ (by rw[hz1,List.length_take];simp;omega) (fun k u hu=>?_);have hk:k<i*3:=by have:=(List.getElem?_eq_some_iff.1 hu).1;rw[List.length_take] at this;omega
  (rw[List.getElem?_take_of_lt hk] at hu;have h2:vs[k]?=some u:=by simpa using hu);have h3:=vM (w:=w.drew) hb k (by omega)
  rw[show vs.getD k undef=u by simp[h2]] at h3;rw[Addr.add_lit,Nat.zero_add];exact h3
 obtain⟨Z,hZ⟩:∃ Z:Nat->Array Value,(fun k=>Builtin.zeroCells (Value.agg #[.bool false,.slice none 0 0,.slice none 0 0]).cells k)=Z:=⟨_,rfl⟩;have hZs:∀ k,(Z k).size=k*3:=fun k=>by rw[<-hZ];show (Builtin.zeroCells _ k).size=_;rw[kR];rfl
 have hrz:∀ ty,(Builtin.append_ #[34,3] ty #[.slice (some ⟨b,0,none⟩) i cap,.int .i64 ((n:Int)+1-(i:Int))]).run Tryz.prog w =
   .ok (.slice (some ⟨w.heap.size,0,none⟩) (n+1) (grownCap w (n+1) cap 27)) (w.drew.alloc (.cells ((vs.toList.take (i*3)).toArray++Z (n+1-i)++Z (grownCap w (n+1) cap 27-(n+1))) 27)):=fun ty=>by
  have h:=Lib.run_append_grow_zeros w 34 3 ty 27 i0 _ .i64 .i64 t0 Tryz.underlying3 hi0 hz0 (some ⟨b,0,none⟩) i cap (vs.toList.take (i*3)) hold (n+1-i) (by omega) (by omega) (by omega) (by omega) (by rw[hz2];omega) (by rw[hz2,show i+(n+1-i)=n+1 by omega];exact growslice_fits hroom (by omega));rw[show i+(n+1-i)=n+1 by omega] at h;rw[show (n:Int)+1-(i:Int)=((n+1-i:Nat):Int) by omega,<-hZ];exact h
 obtain⟨G,hG⟩:∃ G,grownCap w (n+1) cap 27=G:=⟨_,rfl⟩;have hGn:n+1<=G:=by rw[<-hG];exact grownCap_ge w _ _ _
 rw[hG] at hrz;obtain⟨ROW,hROW⟩:∃ ROW:Array Value,(vs.toList.take (i*3)).toArray++Z (n+1-i)++Z (G-(n+1))=ROW:=⟨_,rfl⟩;rw[hROW] at hrz;have hRs:ROW.size=G*3:=by rw[<-hROW,Array.size_append,Array.size_append,hZs,hZs,List.size_toArray,List.length_take];simp;omega
 have hRg:∀ k,k<i*3->ROW.getD k undef=vs.getD k undef:=fun k hk=>by rw[<-hROW,Array.append_assoc];rw[jO (by rw[List.length_take];simp;omega),List.getD_eq_getElem?_getD,List.getElem?_take_of_lt hk];simp
 have hnb:(w.drew.alloc (.cells ROW 27)).heap[w.heap.size]?=some (.cells ROW 27 (0,0)):=heap_alloc_new w.drew _;have hob:∀ c,c<w.heap.size->(w.drew.alloc (.cells ROW 27)).heap[c]?=w.heap[c]?:=fun c hc=>heap_alloc_old w.drew _ hc;obtain⟨W1,hW1⟩:∃ W1,w.drew.alloc (.cells ROW 27)=W1:=⟨_,rfl⟩;rw[hW1] at hrz hnb hob;have hcpA:∀ (W:World),W.heap=W1.heap->∀ ty dc,(Builtin.copy_ #[34,34] ty #[.slice (some ⟨w.heap.size,i*3,none⟩) (n+1-i) dc,.slice (some ⟨vb,vo,none⟩) 1 vc]).run Tryz.prog W=.ok (goInt (Nat.min 1 (n+1-i):Nat)) (W.setRow w.heap.size (wr ROW (i*3) XS)):=fun W hW ty dc =>
  jN W _ _ ty 27 i0 w.heap.size (i*3) (n+1-i) dc 27 ⟨vb,vo,none⟩ 1 vc XS t0 hi0 (by rw[hW];exact hnb) (by rw[hxl,hz1];show _=min 1 (n+1-i)*3;rw[Nat.min_eq_left (by omega)])
   (fun j v hj=>by rw[Addr.add_lit];have:=hxs j v hj;simp only[World.cell?,hW,hob vb hvw] at this ⊢;exact this) (by rw[hxl,hRs];omega) hx1
 have hcpB:∀ (W:World),(∀ c,c<w.heap.size->W.heap[c]?=w.heap[c]?)->W.heap[w.heap.size]?=some (.cells (wr ROW (i*3) XS) 27 (0,0))->∀ ty dc sc,(Builtin.copy_ #[34,34] ty #[.slice (some ⟨w.heap.size,(i+1)*3,none⟩) (n+1-(i+1)) dc,.slice (some ⟨b,i*3,none⟩) (n-i) sc]).run Tryz.prog W=.ok (goInt (Nat.min (n-i) (n+1-(i+1)):Nat)) (W.setRow w.heap.size (wr (wr ROW (i*3) XS) ((i+1)*3) OLD)):=fun W hW hW2 ty dc sc =>
  jN W _ _ ty 27 i0 w.heap.size ((i+1)*3) (n+1-(i+1)) dc 27 ⟨b,i*3,none⟩ (n-i) sc OLD t0 hi0 hW2 (by rw[hol,hz1];show _=min (n-i) (n+1-(i+1))*3;rw[Nat.min_eq_left (by omega)])
   (fun j v hj=>by have h2:=hog j v hj;have h3:=vM (w:=w) hb (i*3+j) (by omega);rw[h2.2] at h3;rw[Addr.add_lit];simp only[World.cell?,hW b hbw] at h3 ⊢;exact h3) (by rw[hol,wF (by rw[hxl,hRs];omega),hRs];omega) ho1
 have hz2':¬((i:Int)=(n:Int)):=by omega
 have hw1:IntKind.i64.wrap ((i:Int)+1)=(i:Int)+1:=by rw[IntKind.wrap_i64];omega
 have hw2:IntKind.i64.wrap ((n:Int)+1)=(n:Int)+1:=by rw[IntKind.wrap_i64];omega
 have hw3:IntKind.i64.wrap ((n:Int)+1-(i:Int))=(n:Int)+1-(i:Int):=by rw[IntKind.wrap_i64];omega
 have hb2:(0:Int)<=(i:Int)+1:=by omega
 have hin:i<=n:=by omega
 have hin':(i:Int)<=(n:Int):=by omega
 have htn:((i:Int)+1).toNat=i+1:=by omega
 have hb4:¬(G=i+1):=by omega
 have hb6:¬(G=i):=by omega
 have hb7:¬(cap=i):=by omega
 have hb8:(cap:Int)<(n:Int)+1:=by omega
 have hic:i<=cap:=by omega
 have hW2a:∀ c,c<w.heap.size->((W1.setRow w.heap.size (wr ROW (i*3) XS)).drew).heap[c]?=w.heap[c]?:=fun c hc=>by have:=setRow_other W1 w.heap.size c (wr ROW (i*3) XS) (by omega);show (W1.setRow w.heap.size (wr ROW (i*3) XS)).heap[c]?=_;rw[this,hob c hc]
 have hW2b:((W1.setRow w.heap.size (wr ROW (i*3) XS)).drew).heap[w.heap.size]?=some (.cells (wr ROW (i*3) XS) 27 (0,0)):=setRow_heap W1 w.heap.size ROW _ _ _ hnb;have hcpC:=hcpB _ hW2a hW2b;clear hb hsz h1 hOLD hol hog ho1 hxs hx1 hxl hold hZ hZs hG hROW
 go_enter Tryz.func89,Tryz.ntmps89
 go_wp2_with (first
  |(at_builtin;refine Lib.wpList_append_run _ rfl _ _ _ _ rfl _ _ rfl rfl _ _ (hrz _) ?_)
  |(at_builtin;refine cV _ rfl _ _ 34 34 rfl _ _ rfl rfl (hcpA _ rfl _ _) ?_))
 go_region_law (refine a8 rfl (.tmp 50) (.tmp 53) 34 34 rfl (.slice (some ⟨w.heap.size,(i+1)*3,none⟩) (n+1-(i+1)) (G-(i+1))) (.slice (some ⟨b,i*3,none⟩) (n-i) (cap-i)) (by simp[Act.eval,Act.put]) (by simp[Act.eval,Act.put]) (hcpC _ _ _) ?_)
 go_wp2
 go_ret
 exact⟨G,ROW,_,_,hGn,hRs,hRg,rfl,hW1.symm,rfl,rfl⟩
theorem zLA {w w':World}{S:Nat->Nat->Prop}{β:Bm}{m k s cap:Nat}{els els':Unit->List (List D)}{vs':Array Value}{T:TypeId}{l:List Value}(hS:∀ b i,S b i->b<w.heap.size) (hos:w'.os=w.os) (htp:w'.tape=w.tape) (hout:w'.output=w.output) (hhs:w'.heap.size=w.heap.size+1) (hsame:∀ c,c<w.heap.size->w'.heap[c]?=w.heap[c]?) (hbk:w'.heap[w.heap.size]?=some (.cells vs' T (0,0))) (hc:Cells w S s l (els' ())) (hle:l.length<=vs'.size) (hv:∀ k,k<l.length->vs'.getD k undef=l.getD k undef) (hlc:(els' ()).length<=cap) (hcap:cap*s<=vs'.size):∃ v S' β',Ending.returned (Value.slice (some ⟨w.heap.size,0,none⟩) (els' ()).length cap)=.returned v/\Leads w S (Blk β ([]++[(m,.arr s els)])) w' S'/\Rep w' S' β' v (.osl k s (fun _=>0) (fun _=>(els' ()).length))/\ObjsAt w' S' β' ([]++[(k,.arr s els')]) /\ (([]:List (Nat×Obj')).map Prod.fst=([]:List (Nat×Obj')).map Prod.fst)/\(∀ n o,(n,o)∈([]:List (Nat×Obj'))->β' n=β n) /\ (∀ n o c,(n,o)∈[]++[(k,Obj'.arr s els')]->Own β' n o c->w.heap.size<=c\/Blk β ([]++[(m,.arr s els)]) c):=by
 have hon:∀ c,Own (vG β k (some w.heap.size)) k (Obj'.arr s els') c->c=w.heap.size:=fun c hc=>by have:=yR (o:=Obj'.arr s els') (fun i hi=>hi) hc;rw[yI] at this;cases this;rfl
 have hce:∀ b i,S b i->w'.cell? ⟨b,i,none⟩=w.cell? ⟨b,i,none⟩:=fun b i h=>jQ (hsame b (hS b i h)) i;refine⟨_,S,vG β k (some w.heap.size),rfl,⟨by omega,hos,htp,hout,fun c hc _=>hsame c hc,fun c us U hc=>⟨us,by rw[hsame c (Array.getElem?_eq_some_iff.1 hc).1];exact hc,rfl⟩,fun c i h=>by have:=hS c i h;omega,fun c i _ h=>h,fun c i _ _ h=>h⟩,?_,⟨by simp,?_,?_,?_⟩,rfl,(fun n o h=>by cases h),?_⟩;{have:=Rep.osl (w:=w') (S:=S) (β:=vG β k (some w.heap.size)) (n:=k) (s:=s) (cap:=cap) (b:=w.heap.size) (o:=fun _=>0) (len:=fun _=>(els' ()).length) yI hlc hbk (by rw[Nat.zero_add];exact hcap);rw[Nat.zero_mul] at this;exact this};{intro n o h;simp only[List.nil_append,List.mem_singleton,Prod.mk.injEq] at h;obtain⟨rfl,rfl⟩:=h;exact Cells.obj (lg:=false) (l:=l) (hc.evo hce (fun _ _ h=>h)) yI hbk hle hv};{intro n o c h hc;simp only[List.nil_append,List.mem_singleton,Prod.mk.injEq] at h;obtain⟨rfl,rfl⟩:=h;have:=hon c hc;subst this;exact⟨fun i hi=>absurd (hS _ _ hi) (Nat.lt_irrefl _),by omega⟩};{intro n o n' o' c h h' hc hc';simp only[List.nil_append,List.mem_singleton,Prod.mk.injEq] at h h';rw[h.1,h'.1]};{intro n o c h hc;simp only[List.nil_append,List.mem_singleton,Prod.mk.injEq] at h;obtain⟨rfl,rfl⟩:=h;rw[hon c hc];exact .inl (Nat.le_refl _)}
theorem zL4 (xs:List (List D))(i:Nat)(hi:i<xs.length)(hn:xs.length<2^40)(x:List D)(hx:x.length=3)(m k:Nat):Sound 89 [.osl m 3 (fun _=>0) (fun _=>xs.length),.int .i64 (fun _=>(i:Int)),.sl (fun _=>[x])] [] [(m,.arr 3 (fun _=>xs))] (.osl k 3 (fun _=>0) (fun _=>(xs.take i++([x]++xs.drop i)).length)) [] [(k,.arr 3 (fun _=>xs.take i++([x]++xs.drop i)))]:=by
 refine⟨zE2 (fn:=Tryz.f89) (by rw[xX];rfl) rfl rfl,?_⟩;intro w S β vals hS hO hvs hrep;obtain⟨v0,v1,v2,rfl⟩:∃ v0 v1 v2,vals=#[v0,v1,v2]:=by
  match vals,hvs with
  |⟨[a,b,c]⟩,_=>exact⟨a,b,c,rfl⟩
 have r0:=hrep 0 (by show 0<3;decide);have r1:=hrep 1 (by show 1<3;decide);have r2:=hrep 2 (by show 2<3;decide);have e1:v1=.int .i64 (i:Int):=xV r1;obtain⟨b,cap,vs,T,hβ,hlc,hw,hsz,hv,hce,hle⟩:=zEW hO (show Rep w S β v0 (.osl m 3 (fun _=>0) (fun _=>xs.length)) from r0) rfl rfl (by show 0<xs.length;omega);have hrd:RepD w S v2 (.sl [x]):=gW (els:=fun _=>[x]) r2;obtain⟨vb,vo,vc,s,vals',hne,hcap,hSt,hs,hc,hrr,hone',hv2⟩:∃ (b o cap s:Nat) (vals:Nat->Nat->Value),[x]≠[]/\[x].length<=cap/\(∀ i j,i<[x].length->j<s->S b (o+i*s+j))/\(∀ e,e∈[x]->e.length=s) /\
   (∀ i j,i<[x].length->j<s->w.cell? ⟨b,o+i*s+j,none⟩=some (vals i j)) /\
   (∀ i j,i<[x].length->j<s->RepD w S (vals i j) (([x].getD i []).getD j .any))/\(∀ i j,i<[x].length->j<s->(vals i j).oneCell'=true)/\v2=.slice (some ⟨b,o,none⟩) [x].length cap:=by
  rcases qR hrd with⟨h,_⟩|h;{cases h};{exact h}
 have hs3:s=3:=by rw[<-hs x (by simp),hx]
 subst e1 hv hv2 hs3;rw[xX];have hone:∀ k,k<xs.length*3->(vs.getD k undef).oneCell'=true:=fun k hk=>by have:=(hce.at_ (k/3) (k%3) ((Nat.div_lt_iff_lt_mul (by decide)).2 hk) (Nat.mod_lt _ (by decide))).2;rw[show k/3*3+k%3=k by omega,List.getD_eq_getElem?_getD,List.getElem?_take_of_lt hk] at this;simpa using this
 have h01:(0:Nat)<[x].length:=by simp
 have hXg:∀ (j:Nat) v,[vals' 0 0,vals' 0 1,vals' 0 2][j]?=some v->j<3/\v=vals' 0 j:=fun j v hj=>by
  match j,hj with
  |0,hj=>exact⟨by decide,(Option.some.inj hj).symm⟩| 1,hj=>exact⟨by decide,(Option.some.inj hj).symm⟩| 2,hj=>exact⟨by decide,(Option.some.inj hj).symm⟩| _+3,hj=>cases hj
 have hXc:∀ (j:Nat) v,[vals' 0 0,vals' 0 1,vals' 0 2][j]?=some v->w.cell? ⟨vb,vo+j,none⟩=some v:=fun j v hj=>by obtain⟨h1,rfl⟩:=hXg j v hj;have:=hc 0 j h01 h1;rwa [Nat.zero_mul,Nat.add_zero] at this
 have hX1:∀ v,v∈[vals' 0 0,vals' 0 1,vals' 0 2]->v.oneCell'=true:=fun v hv=>by obtain⟨j,hj⟩:=List.mem_iff_getElem?.1 hv;obtain⟨h1,rfl⟩:=hXg j v hj;exact hone' 0 j h01 h1
 obtain⟨hnS,hlt⟩:=hO.un m _ b List.mem_cons_self (.inl hβ);have hvb:vb≠b:=fun e=>by have:=hSt 0 0 h01 (by decide);rw[e] at this;exact (hnS _ this).elim
 have hXC:Cells w S 3 [vals' 0 0,vals' 0 1,vals' 0 2] [x]:=⟨rfl,hs,fun a b ha hb=>by
  (have ha0:a=0:=by simp at ha;exact ha);subst ha0
  have h2:[vals' 0 0,vals' 0 1,vals' 0 2].getD (0*3+b) undef=vals' 0 b:=by
   match b,hb with
   |0,_=>rfl| 1,_=>rfl| 2,_=>rfl
  rw[h2];exact⟨hrr 0 b h01 hb,hone' 0 b h01 hb⟩⟩
 have hcc:=(hce.take i).append (hXC.append (hce.drop i));have hL:(vs.toList.take (xs.length*3)).length=xs.length*3:=by rw[List.length_take];simp;omega
 have hol:((vs.toList.take (xs.length*3)).drop (i*3)).length=(xs.length-i)*3:=by rw[List.length_drop,hL];omega
 have hlen:xs.length+1=(xs.take i++([x]++xs.drop i)).length:=by simp;omega
 have hget:∀ (B:Array Value),B.size ≥ (xs.length+1)*3->(∀ k,k<i*3->B.getD k undef=vs.getD k undef)->∀ k,k<(xs.take i++([x]++xs.drop i)).length*3->(if (i+1)*3<=k/\k<(i+1)*3+(xs.length-i)*3 then ((vs.toList.take (xs.length*3)).drop (i*3)).getD (k-(i+1)*3) undef else if i*3<=k/\k<i*3+3 then [vals' 0 0,vals' 0 1,vals' 0 2].getD (k-i*3) undef else B.getD k undef) =
   ((vs.toList.take (xs.length*3)).take (i*3)++([vals' 0 0,vals' 0 1,vals' 0 2]++(vs.toList.take (xs.length*3)).drop (i*3))).getD k undef:=fun B hB hBg k hk=>by
  rw[<-hlen] at hk;rw[List.getD_eq_getElem?_getD (l:=_++_)];by_cases h1:k<i*3;{rw[if_neg (by omega),if_neg (by omega),hBg k h1,List.getElem?_append_left (by rw[List.length_take,hL];omega),List.getElem?_take_of_lt h1,List.getElem?_take_of_lt (by omega)];simp};{rw[List.getElem?_append_right (by rw[List.length_take,hL];omega),List.length_take,hL,Nat.min_eq_left (by omega)];by_cases h2:k<(i+1)*3;{rw[if_neg (by omega),if_pos (by omega),List.getElem?_append_left (by show _<3;omega),List.getD_eq_getElem?_getD]};{rw[if_pos (by omega),List.getElem?_append_right (by show 3<=_;omega),List.getD_eq_getElem?_getD];congr 2;show k-(i+1)*3=k-i*3-3;omega}}
 by_cases hroom:xs.length+1<=cap;{refine (zEB b xs.length i cap vs T w hw hi hroom hsz hn hone vb vo vc [vals' 0 0,vals' 0 1,vals' 0 2] rfl hvb hXc hX1).mono ?_;rintro e w' ⟨rfl,hw'⟩;rw[setRow_setRow] at hw';have hsz1:(wr vs ((i+1)*3) ((vs.toList.take (xs.length*3)).drop (i*3))).size=vs.size:=wF (by rw[hol];omega);rw[hlen];refine lK (els':=fun _=>xs.take i++([x]++xs.drop i)) hS hO hβ hw hw' (by rw[wF (by rw[hsz1];show _+3<=_;omega),hsz1]) hcc (by rw[hcc.len,<-hlen];omega) ?_ (by show (xs.take i++([x]++xs.drop i)).length<=cap;omega) hsz;intro k hk;rw[hcc.len] at hk;rw[vX (by rw[hsz1];show _+3<=_;omega),vX (by rw[hol];omega),hol,<-hget vs (by omega) (fun _ _=>rfl) k hk];show (if i*3<=k/\k<i*3+3 then _ else _)=_;by_cases h1:i*3<=k/\k<i*3+3;{rw[if_pos h1,if_neg (by omega),if_pos h1]};{rw[if_neg h1,if_neg h1]}}
 ·(refine (zHB b xs.length i cap vs T w hw hi hlc (by omega) hsz hn hone vb vo vc [vals' 0 0,vals' 0 1,vals' 0 2] rfl hXc hX1).mono ?_;rintro e w' ⟨G,ROW,w1,w2,hGn,hRs,hRg,rfl,hw1,hw2,hw'⟩;have hsz1:(wr ROW (i*3) [vals' 0 0,vals' 0 1,vals' 0 2]).size=ROW.size:=wF (by show _+3<=_;omega);have hsz2:(wr (wr ROW (i*3) [vals' 0 0,vals' 0 1,vals' 0 2]) ((i+1)*3) ((vs.toList.take (xs.length*3)).drop (i*3))).size=ROW.size:=by rw[wF (by rw[hsz1,hol];omega),hsz1]);have hb1:w1.heap[w.heap.size]?=some (.cells ROW 27 (0,0)):=by rw[hw1];exact heap_alloc_new w.drew _
  (have hb2:w2.heap[w.heap.size]?=some (.cells (wr ROW (i*3) [vals' 0 0,vals' 0 1,vals' 0 2]) 27 (0,0)):=by rw[hw2];exact setRow_heap w1 w.heap.size ROW _ _ _ hb1);rw[hlen]
  refine zLA (els':=fun _=>xs.take i++([x]++xs.drop i)) hS (by rw[hw',hw2,hw1];rfl) (by rw[hw',hw2,hw1];rfl) (by rw[hw',hw2,hw1];rfl) (by rw[hw',hw2,hw1];simp) (fun c hc=>?_) (by rw[hw'];exact setRow_heap w2 w.heap.size _ _ _ _ hb2) hcc (by rw[hcc.len,hsz2,<-hlen];omega) ?_ (by show (xs.take i++([x]++xs.drop i)).length<=G;omega) (by rw[hsz2];omega);{rw[hw',setRow_other w2 w.heap.size c _ (by omega),hw2];show (w1.setRow w.heap.size _).heap[c]?=_;rw[setRow_other w1 w.heap.size c _ (by omega),hw1];exact heap_alloc_old w.drew _ hc};{intro k hk;rw[hcc.len] at hk;rw[vX (by rw[hsz1,hol];omega),hol,vX (by show _+3<=_;omega)];exact hget ROW (by omega) hRg k hk}
theorem u6 {rs:List ResultVar}{r:PV}{ps ps':PS}{kept made:List (Nat×Obj')}(h:Nat->Nat)(hw:Wk ps ps')(h3:lv r=true)(h4:v5 h ps'.objs (kept++made))(h5:ndO (zW h (kept++made))=true)(h6:iL h kept)(hr:match gV ps' rs with
  |some l=>les (r8 l) (ren h r)| none=>False):RetOk rs r kept made ps:=by
 cases h1:gV ps' rs with
 |none=>rw[h1] at hr;exact hr.elim| some l=>rw[h1] at hr;exact⟨ps',l,h,hw,h1,fG hr,h3,h4,h5,h6⟩
theorem zC4:Pg.funcs[58]?=some Tryz.f58:=by rw[xX];rfl
theorem oL:ty 35=.sli 1 8 [.int .i64 (fun _=>0)]:=by cbv
theorem zHP:ty 34=.sli 3 56 [.ff,.nil,.nil]:=by cbv
theorem zK7 (xs:List (List D))(hw:∀ e,e∈xs->e.length=1)(hn:xs.length<2^40):Sound 58 [.osl 1000001 1 (fun _=>0) (fun _=>xs.length)] [(1000001,.arr 1 (fun _=>xs))] [] (.osl 7 1 (fun _=>0) (fun _=>xs.length)) [(1000001,.arr 1 (fun _=>xs))] [(7,.arr 1 (fun _=>xs))]:=by refine yH zC4 rfl rfl rfl rfl rfl ?_;cbv;refine⟨fun b hb=>?_⟩;cbv;refine z9 (fun h=>?_) (fun h=>?_);{have h0:xs.length=0:=hb h;have h1:xs=[]:=List.eq_nil_of_length_eq_zero h0;subst h1;cbv;refine u6 id (.trans (wkZ (ps':=⟨[(2,.nil)],[(1000001,.arr 1 (fun _=>[]))]⟩)) (.adoptT 7 1 2 rfl rfl)) rfl (by exact⟨⟨rfl,rfl⟩,⟨rfl,rfl⟩,trivial⟩) (by rfl) (by exact⟨⟨rfl,by omega⟩,trivial⟩) ?_;exact lR};{cbv;refine eQ oL rfl rfl rfl rfl rfl rfl rfl rfl ⟨hw⟩ (yJ om (by simp only[List.length_nil];(try dsimp only [zJ] at *) <;> omega)) rfl ?_;cbv;refine u6 id (.refl _) rfl (by exact⟨⟨rfl,rfl⟩,⟨rfl,rfl⟩,trivial⟩) (by rfl) (by exact⟨⟨rfl,by omega⟩,trivial⟩) ?_;exact z5 rfl (by simp)}
theorem zK6 (xs:List (List D))(hw:∀ e,e∈xs->e.length=3)(hn:xs.length<2^40):Sound 79 [.osl 1000001 3 (fun _=>0) (fun _=>xs.length)] [(1000001,.arr 3 (fun _=>xs))] [] (.osl 7 3 (fun _=>0) (fun _=>xs.length)) [(1000001,.arr 3 (fun _=>xs))] [(7,.arr 3 (fun _=>xs))]:=by refine sF Tryz.f79 ?_;cbv;refine⟨fun b hb=>?_⟩;cbv;refine z9 (fun h=>?_) (fun h=>?_);{have h0:xs.length=0:=hb h;have h1:xs=[]:=List.eq_nil_of_length_eq_zero h0;subst h1;cbv;refine u6 id (.trans (wkZ (ps':=⟨[(2,.nil)],[(1000001,.arr 3 (fun _=>[]))]⟩)) (.adoptT 7 3 2 rfl rfl)) rfl (by exact⟨⟨rfl,rfl⟩,⟨rfl,rfl⟩,trivial⟩) (by rfl) (by exact⟨⟨rfl,by omega⟩,trivial⟩) ?_;exact lR};{cbv;refine eQ zHP rfl rfl rfl rfl rfl rfl rfl rfl ⟨hw⟩ (yJ om (by simp only[List.length_nil];(try dsimp only [zJ] at *) <;> omega)) rfl ?_;cbv;refine u6 id (.refl _) rfl (by exact⟨⟨rfl,rfl⟩,⟨rfl,rfl⟩,trivial⟩) (by rfl) (by exact⟨⟨rfl,by omega⟩,trivial⟩) ?_;exact z5 rfl (by simp)}
theorem sQ (l:List Nat)(x:Nat)(hn:l.length<2^40):Sound 91 [.osl 1000001 1 (fun _=>0) (fun _=>l.length),.int .i64 (fun _=>(x:Int))] [(1000001,.arr 1 (fun _=>enc ci l))] [] (.int .i64 (fun _=>wQ l x)) [(1000001,.arr 1 (fun _=>enc ci l))] []:=by
 refine sF Tryz.f91 ?_;obtain⟨E,hE⟩:∃ E,wQ l x=E:=⟨_,rfl⟩;rw[hE];cbv;refine yB (σ:=Nat) (fun i=>⟨[(0,.osl 1000001 1 (fun _=>0) (fun _=>l.length)),(1,.int .i64 (fun _=>(x:Int))),(7,.int .i64 (fun _=>(l.length:Int))),(8,.int .i64 (fun _=>(i:Int)))],[(1000001,.arr 1 (fun _=>enc ci l))]⟩)
  (fun i=>i<=l.length/\E=cZ x (l.drop i) i) (fun i=>l.length-i) 0 ⟨by omega,by rw[<-hE];rfl⟩ (.le okZ (by cbv;repeat' first|exact trivial|exact lR|exact zA rfl|exact zC om|exact zN rfl|exact zL (by assumption)|exact zU (by assumption)|exact zI (by assumption)|exact⟨rfl⟩|apply And.intro) rfl) ?_
 intro i hs;obtain⟨g1,g2⟩:=hs;cbv;refine zF (fun h=>?_) (fun h=>?_)
 ·(have hi:i<l.length:=om;obtain⟨y,hy⟩:=zV hi;have hd:l.drop i=y::l.drop (i+1):=by rw[List.drop_eq_getElem_cons hi];congr 1;rw[List.getElem?_eq_getElem hi] at hy;exact Option.some.inj hy);rw[hd,cZ] at g2;cbv;refine⟨zQ om om,?_⟩;refine fL hy om ?_;cbv;refine zF (fun h1=>?_) (fun h1=>?_)
  {have he:E=i:=g2.trans (if_pos om);rw[he];cbv;refine qF (.refl _) rfl (by exact⟨⟨rfl,rfl⟩,trivial⟩) (by rfl) (by exact⟨⟨rfl,by omega⟩,trivial⟩) ?_;exact lR};{have he:=g2.trans (if_neg om);cbv;refine⟨zE om om,?_⟩;cbv;exact⟨i+1,⟨hi,he⟩,by show l.length-(i+1)<l.length-i;omega,.le okZ (by cbv;repeat' first|exact trivial|exact lR|exact zA rfl|exact zC om|exact zN rfl|exact zL (by assumption)|exact zU (by assumption)|exact zI (by assumption)|exact⟨rfl⟩|apply And.intro) rfl⟩}
 ·(have he:E=-1:=by rw[g2,List.drop_of_length_le om];rfl);rw[he]
  cbv;refine qF (.refl _) rfl (by exact⟨⟨rfl,rfl⟩,trivial⟩) (by rfl) (by exact⟨⟨rfl,by omega⟩,trivial⟩) ?_;exact lR
theorem zOU (X:R)(hx:X.sz (2^34)):zM 93 [rv X] (.bool (fun _=>!(decide (xJ X.q=0)))):=by
 refine sF Tryz.f93 ?_;have csg:=s86 X (by have:=hx.n;omega);generalize xJ X.q=sg at *
 cbv;refine cA csg ?_;cbv
 (refine rC ?_;cbv)
 exact kM rfl
theorem zNF (l:List Rat)(n:Nat)(hnl:n<=l.length)(hn:l.length<2^40)(hf:lfit (2^34) l):Sound 92 [.osl 1000001 3 (fun _=>0) (fun _=>n),.fn 93 []] [(1000001,.arr 3 (fun _=>enc cq l))] [] (.int .i64 (fun _=>sW (l.take n) 0)) [(1000001,.arr 3 (fun _=>enc cq l))] []:=by
 refine sF Tryz.f92 ?_;obtain⟨E,hE⟩:∃ E,sW (l.take n) 0=E:=⟨_,rfl⟩;rw[hE];cbv;refine yB (σ:=Nat) (fun i=>⟨[(0,.osl 1000001 3 (fun _=>0) (fun _=>n)),(1,.fn 93 []),(7,.int .i64 (fun _=>(n:Int))),(8,.int .i64 (fun _=>(i:Int)))],[(1000001,.arr 3 (fun _=>enc cq l))]⟩)
  (fun i=>i<=n/\E=sW ((l.take n).drop i) i) (fun i=>n-i) 0 ⟨by omega,by rw[<-hE];rfl⟩ (.le (by cbv;repeat' first|exact trivial|exact lR|exact⟨rfl,trivial⟩|apply And.intro) (by cbv;repeat' first|exact trivial|exact lR|exact zA rfl|exact zC om|exact zN rfl|exact zL (by assumption)|exact zU (by assumption)|exact zI (by assumption)|exact⟨rfl⟩|apply And.intro) rfl) ?_
 intro i hs;obtain⟨g1,g2⟩:=hs;cbv;refine zF (fun h=>?_) (fun h=>?_)
 ·(have hi:i<n:=om;obtain⟨c,hc⟩:=zV (show i<l.length by omega);have hct:(l.take n)[i]?=some c:=by rw[List.getElem?_take_of_lt hi];exact hc);have hil:i<(l.take n).length:=by rw[List.length_take];omega
  have hd:(l.take n).drop i=c::(l.take n).drop (i+1):=by rw[List.drop_eq_getElem_cons hil];congr 1;rw[List.getElem?_eq_getElem hil] at hct;exact Option.some.inj hct
  (rw[hd,sW] at g2;obtain⟨C,hC⟩:∃ C,zS c=C:=⟨_,rfl⟩;have fc:Fits (2^34) c:=hf c (List.mem_of_getElem? hc);have szC:C.sz (2^34):=by rw[<-hC];exact yZ fc);have qC:C.q=c:=by rw[<-hC];exact xF c
  have cnz:=zOU C szC;rw[qC] at cnz;have hz:xJ c=0↔c=0:=jD;generalize xJ c=sg at *
  cbv;refine⟨zQ om om,?_⟩;refine k7 hc om hC ?_;cbv;refine wA rfl okA cnz rfl ?_;cbv;refine z9 (fun h1=>?_) (fun h1=>?_);{have he:E=i:=g2.trans (if_pos fun e=>by rw[decide_eq_true (hz.2 e)] at h1;cases h1);rw[he];cbv;refine qF (.refl _) rfl (by exact⟨⟨rfl,rfl⟩,trivial⟩) (by rfl) (by exact⟨⟨rfl,by omega⟩,trivial⟩) ?_;exact lR};{have he:=g2.trans (if_neg fun e=>e (hz.1 (by simpa using h1)));cbv;refine⟨zE om om,?_⟩;cbv;exact⟨i+1,⟨hi,he⟩,by show n-(i+1)<n-i;omega,.le (by cbv;repeat' first|exact trivial|exact lR|exact zC om|exact⟨rfl,trivial⟩|apply And.intro) (by cbv;repeat' first|exact trivial|exact lR|exact zA rfl|exact zC om|exact zN rfl|exact zL (by assumption)|exact zU (by assumption)|exact zI (by assumption)|exact⟨rfl⟩|apply And.intro) rfl⟩}
 ·(have he:E=-1:=by rw[g2,List.drop_of_length_le (by rw[List.length_take];(try dsimp only [zJ] at *);omega)];rfl);rw[he]
  cbv;refine qF (.refl _) rfl (by exact⟨⟨rfl,rfl⟩,trivial⟩) (by rfl) (by exact⟨⟨rfl,by omega⟩,trivial⟩) ?_;exact lR
end Go.Proofs.YtfainocfaddbdaaGreat
