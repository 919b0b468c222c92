/- A part of the proof: SnA. -/
import Derived.Test.YtfainocfaddbdaaGreatU14
import Derived.Test.YtfainocfaddbdaaGreatChecked
import Derived.Deep.RegionLaw
import Derived.WalkKit
import Derived.Lib.Walk
import Derived.Lib.SliceRun
import Derived.Lib.AppendZerosOnto
import Derived.Lib.Overlaps
set_option linter.all false
namespace Go.Proofs.YtfainocfaddbdaaGreat
open Go
set_option maxRecDepth 100000
set_option maxHeartbeats 4000000
theorem p6 {P:Program}{ops:Array Oper}{o:Oper}{a:Act}{w:World}{K:Act->World->Prop}{Q:Exit->Act->World->Prop}{E:Prop} (hg:o.guard=none) (d x:Operand) (dT sT:TypeId) (hop:o.op=Op.call { callee:=Callee.builtin Builtin.append,args:=#[d,x],argTypes:=#[dT,sT] }) (v u:Value) (hd:a.eval d=v) (hx:a.eval x=u) {v':Value} {w':World} (hr:(Builtin.append_ #[dT,sT] o.type #[v,u]).run P w=.ok v' w') (hK:K (a.put o.dst v') w'):if Region.wanted o (yielded ops a.tmps)=true then Oper.wp P o a w K Q else E:=by
 have hw:Region.wanted o (yielded ops a.tmps)=true:=by simp[Region.wanted,hg]
 rw[if_pos hw];unfold Oper.wp;simp[execOp,hop,resolve,invoke,builtin,hd,hx,hr,Result.andThen];exact hK
theorem zGM {P:Program}(w:World){o:Oper}{a:Act}{K:Act->World->Prop}{Q:Exit->Act->World->Prop}(x:Operand)(t:TypeId) (ho:o.op=.call { callee:=.builtin .clear,args:=#[x],argTypes:=#[t] }) (v:Value) (hx:a.eval x=v) {v':Value} {w':World} (hr:(Builtin.clear_ #[t] o.type #[v]).run P w=.ok v' w') (h:K (a.put o.dst v') w'):o.wp P a w K Q:=by unfold Oper.wp execOp;simp only[ho,resolve,invoke,builtin,Sem.run_bind,Sem.run_pure,Result.andThen_ok,List.map_toArray,uC,mU,hx,hr];exact h
theorem rB {P:Program}(w:World){ops:Array Oper}{rest:List Oper}{o:Oper}{a:Act}{Q:Exit->Act->World->Prop}(hgd:o.guard=none)(x:Operand)(t:TypeId) (ho:o.op=.call { callee:=.builtin .clear,args:=#[x],argTypes:=#[t] }) (v:Value) (hx:a.eval x=v) {v':Value} {w':World} (hr:(Builtin.clear_ #[t] o.type #[v]).run P w=.ok v' w') (h:wpList P ops Q rest (a.put o.dst v') w'):wpList P ops Q (o::rest) a w :=
 wpList_plain hgd fun _ hK=>zGM w x t ho v hx hr (hK _ _ h)
theorem lA {P:Program}(w:World)(t e ty:TypeId)(z:Value)(ht:P.underlying t=some (.slice e))(hv:∀ w,(zeroValue e).run P w=.ok z w)(b o n c:Nat)(T:TypeId){cur:Array Value}(hn:0<n) (hg:w.heap[b]?=some (.cells cur T (0,0))) (hl:o+(Builtin.zeroCells z.cells n).toList.length<=cur.size) (h1:∀ v,v∈(Builtin.zeroCells z.cells n).toList->v.oneCell'=true):(Builtin.clear_ #[t] ty #[.slice (some ⟨b,o,none⟩) n c]).run P w=.ok (.tuple #[]) (w.setRow b (wr cur o (Builtin.zeroCells z.cells n).toList)):=by have hst:=run_storeCells_at P b o T (Builtin.zeroCells z.cells n).toList 0 cur w hg (by simpa using hl) h1;simp only[gM] at hst;obtain⟨m,rfl⟩:∃ m,n=m+1:=⟨n-1,by omega⟩;simp[Builtin.clear_,run_underlying ht,hv,hst,wr]
theorem zM1 {f : FuncId} {fn : Func} (hf : Pg.funcs[f]? = some fn) (hb : fn.body.isSome = true) (hname : (fn.name == "runtime.NumGoroutine") = false) : ∀ (vals : Array Value) (w : World), (callFunc f vals).run Pg w = .ok (.enter f vals) w := fun vals w => by
 obtain⟨c,hc⟩:=zQ0.1 hb;have hn : ¬ fn.name = "runtime.NumGoroutine" := by simpa using hname
 simp[callFunc,hf,hn,hc]
section
variable {w w':World} {S S':Nat->Nat->Prop} {β:Bm}
theorem Cells.take {n:Nat}{l:List Value}{els:List (List D)}(h:Cells w S n l els)(i:Nat):Cells w S n (l.take (i*n)) (els.take i):=by
 refine⟨?_,fun e he=>h.wid e (zEU he),fun a b ha hb=>?_⟩;{rw[y4,y4,h.len,Nat.min_def,Nat.min_def];by_cases hi:i<=els.length;{rw[if_pos hi,if_pos (qE _ hi)]};{rw[if_neg hi];split;{rename_i h2;exact Nat.le_antisymm h2 (qE _ oM)};{rfl}}}
 ·(rw[y4] at ha;have h1:a<els.length:=by omega);have h2:a<i:=by omega
  (have h3:=zBJ h2 hb;have:=h.at_ a b h1 hb;have e1:(l.take (i*n)).getD (a*n+b) undef=l.getD (a*n+b) undef:=by simp only[yC];rw[wG h3]);have e2:(els.take i).getD a []=els.getD a []:=by simp only[yC];rw[wG h2]
  rw[e1,e2];exact this
theorem Cells.drop {n:Nat}{l:List Value}{els:List (List D)}(h:Cells w S n l els)(i:Nat):Cells w S n (l.drop (i*n)) (els.drop i):=by
 refine⟨?_,fun e he=>h.wid e (zQ1 he),fun a b ha hb=>?_⟩;{rw[kS,kS,h.len,Nat.sub_mul]}
 ·(rw[kS] at ha;have:=h.at_ (i+a) b oM hb;have e1:(l.drop (i*n)).getD (a*n+b) undef=l.getD ((i+a)*n+b) undef:=by simp only[yC];rw[fQ,w7,alT9]);have e2:(els.drop i).getD a []=els.getD (i+a) []:=by simp only[yC];rw[fQ]
  rw[e1,e2];exact this
theorem zMU {m s:Nat}{els:Unit->List (List D)}{v:Value}{len:Unit->Nat}{o:Unit->Nat}(hO:ObjsAt w S β [(m,.arr s els)])(hv:Rep w S β v (.osl m s o len))(h0:o ()=0)(hl:len ()=(els ()).length)(hp:0<(els ()).length):∃ b cap vs T,β m=some b/\(els ()).length<=cap/\w.heap[b]?=some (.cells vs T (0,0))/\cap*s<=vs.size/\v=.slice (some ⟨b,0,none⟩) (els ()).length cap/\Cells w S s (vs.toList.take ((els ()).length*s)) (els ())/\(els ()).length*s<=vs.size:=by rcases uV hv with⟨hn,_,hl0,_⟩|⟨b,cap,vs,T,hβ,hlc,hw,hsz,hv⟩;{omega};{obtain⟨vs',T',hw',hlen',hce⟩:=pV (lg:=false) (els:=els) (hO.at_ m _ xD) hβ;rw[hw] at hw';cases hw';rw[h0,dN,hl] at hv;rw[h0,xA] at hsz;exact⟨b,cap,vs,T,hβ,by omega,hw,hsz,hv,hce,hlen'⟩}
theorem zDN {m k s b cap:Nat}{els els':Unit->List (List D)}{vs vs':Array Value}{T:TypeId}{l:List Value}(hS:∀ b i,S b i->b<w.heap.size)(hO:ObjsAt w S β [(m,.arr s els)])(hβ:β m=some b)(hw:w.heap[b]?=some (.cells vs T (0,0))) (hw':w'=w.drew.setRow b vs') (hsz:vs'.size=vs.size) (hc:Cells w S s l (els' ())) (hle:l.length<=vs.size) (hv:∀ k,k<l.length->vs'.getD k undef=l.getD k undef) (hlc:(els' ()).length<=cap) (hcap:cap*s<=vs.size):∃ v S' β',Ending.returned (Value.slice (some ⟨b,0,none⟩) (els' ()).length cap)=.returned v/\Leads w S (Blk β ([]++[(m,.arr s els)])) w' S'/\Rep w' S' β' v (.osl k s (fun _=>0) (fun _=>(els' ()).length))/\ObjsAt w' S' β' ([]++[(k,.arr s els')]) /\ (([]:List (Nat×Obj')).map Prod.fst=([]:List (Nat×Obj')).map Prod.fst)/\(∀ n o,(n,o)∈([]:List (Nat×Obj'))->β' n=β n) /\ (∀ n o c,(n,o)∈[]++[(k,Obj'.arr s els')]->Own β' n o c->w.heap.size<=c\/Blk β ([]++[(m,.arr s els)]) c):=by
 obtain⟨hnS,hlt⟩:=hO.un m _ b xD (.inl hβ);have hb:Blk β ([]++[(m,.arr s els)]) b:=⟨m,_,xD,.inl hβ⟩;have hnS':∀ i,S b i->vs'[i]?=vs[i]?:=fun i h=>(hnS i h).elim;have hwd:w.drew.heap[b]?=some (.cells vs T (0,0)):=hw;have he0:=jO (w:=w.drew) hnS' hwd hsz;have he:Evo S w w':=by rw[hw'];exact⟨he0.same,he0.shape⟩
 have hbk:w'.heap[b]?=some (.cells vs' T (0,0)):=by rw[hw'];exact setRow_heap w.drew b vs _ T _ hwd
 have hoth:∀ c,c≠b->w'.heap[c]?=w.heap[c]?:=fun c hc=>by rw[hw'];exact setRow_other w.drew b c vs' hc
 have hhs:w'.heap.size=w.heap.size:=by rw[hw'];simp
 have hon:∀ c,Own (qF β k (some b)) k (Obj'.arr s els') c->c=b:=fun c hc=>by have:=y7 (o:=Obj'.arr s els') (fun i hi=>hi) hc;rw[yQ] at this;cases this;rfl
 refine⟨_,S,qF β k (some b),rfl,⟨by rw[hhs];exact zV _,by rw[hw'];rfl,by rw[hw'];rfl,by rw[hw'];rfl,fun c hc hk=>?_,fun c us U hc=>?_,fun c i h=>by rw[hhs];exact hS c i h,fun c i _ h=>h,fun c i _ _ h=>h⟩,?_,⟨by simp,?_,?_,?_⟩,rfl,(fun n o h=>by cases h),?_⟩;{exact hoth c fun e=>hk (by rw[e];exact hb)};{by_cases e:c=b;{subst e;rw[hw] at hc;cases hc;exact⟨vs',hbk,hsz⟩};{exact⟨us,by rw[hoth c e];exact hc,rfl⟩}};{have:=Rep.osl (w:=w') (S:=S) (β:=qF β k (some b)) (n:=k) (s:=s) (cap:=cap) (b:=b) (o:=fun _=>0) (len:=fun _=>(els' ()).length) yQ hlc hbk (by rw[hsz,xA];exact hcap);rw[dN] at this;exact this};{intro n o h;simp only[aU,kE,tG] at h;obtain⟨rfl,rfl⟩:=h;exact Cells.obj (lg:=false) (l:=l) (hc.evo he.same (fun _ _ h=>h)) yQ hbk (by rw[hsz];exact hle) hv};{intro n o c h hc;simp only[aU,kE,tG] at h;obtain⟨rfl,rfl⟩:=h;have:=hon c hc;subst this;exact⟨fun i hi=>(hnS i hi).elim,by rw[hhs];exact hlt⟩};{intro n o n' o' c h h' hc hc';simp only[aU,kE,tG] at h h';rw[h.1,h'.1]};{intro n o c h hc;simp only[aU,kE,tG] at h;obtain⟨rfl,rfl⟩:=h;rw[hon c hc];exact .inr hb}
end
theorem zL3 (b n c cap:Nat)(vs:Array Value)(T:TypeId)(w:World)(hb:w.heap[b]?=some (.cells vs T (0,0)))(hc:c<n)(hn:n<=cap)(hsz:cap*3<=vs.size)(hn40:n<2^40)(h1:∀ k,k<n*3->(vs.getD k undef).oneCell'=true):Calls Tryz.prog 95 #[.slice (some ⟨b,0,none⟩) n cap,.int .i64 (c:Int),.int .i64 ((c+1:Nat):Int)] w fun e w'=>e=.returned (.slice (some ⟨b,0,none⟩) (c+(n-(c+1))) cap) /\ w'=(w.drew.setRow b (wr vs (c*3) ((vs.toList.take (n*3)).drop ((c+1)*3)))).setRow b (wr (wr vs (c*3) ((vs.toList.take (n*3)).drop ((c+1)*3))) ((c+(n-(c+1)))*3) [.bool false,.slice none 0 0,.slice none 0 0]):=by
 have t0:=Tryz.underlying34;have t1:=Tryz.typeInfo27;have mixed:Tryz.prog.follows .mixedOrders=true:=by kernel_rfl
 obtain⟨i0,hi0,hz0,hz1,hz2⟩:=info_parts (P:=Tryz.prog) (e:=27) (z:=.agg #[.bool false,.slice none 0 0,.slice none 0 0]) (size:=3) (bytes:=56) (by kernel_rfl);have hlt:c≠c+1:=by omega
 have hic:c<=cap:=by omega
 have hjc:c+1<=cap:=by omega
 have hx1:(0:Int)<=(c:Int)+1:=by omega
 have hx2:(c:Int)+1<=(n:Int):=by omega
 obtain⟨NEWS,hNEWS⟩:∃ l,(vs.toList.take (n*3)).drop ((c+1)*3)=l:=⟨_,rfl⟩;rw[hNEWS];have hnl:NEWS.length=(n-(c+1))*3:=by rw[<-hNEWS];simp;omega
 have hng:∀ (t:Nat) u,NEWS[t]?=some u->(c+1)*3+t<n*3/\vs.getD ((c+1)*3+t) undef=u:=fun t u hu=>by
  (have ht:t<NEWS.length:=(v4.1 hu).1;rw[<-hNEWS,fQ,wG oM] at hu;have h2:vs[(c+1)*3+t]?=some u:=by simpa using hu);exact⟨by omega,by simp[h2]⟩
 obtain⟨A,hA,hsrc⟩:∃ A:Addr,(if cap=c+1 then some (⟨b,0,none⟩:Addr) else some ⟨b,(c+1)*3,none⟩)=some A/\(∀ t u,NEWS[t]?=some u->w.drew.cell? (A.add t)=some u):=by by_cases h:cap=c+1;{refine⟨⟨b,0,none⟩,by simp[h],fun t u hu=>?_⟩;have:=(hng t u hu).1;omega};{refine⟨⟨b,(c+1)*3,none⟩,by simp[h],fun t u hu=>?_⟩;have h2:=hng t u hu;have h3:=qJ (w:=w.drew) hb ((c+1)*3+t) oM;rw[h2.2] at h3;rw[Addr.add_lit];exact h3}
 have s2:∀ u,u∈NEWS->u.oneCell'=true:=fun u hu=>by obtain⟨t,ht⟩:=mL.1 hu;have:=hng t u ht;rw[<-this.2];exact h1 _ this.1
 have hap:∀ ty cc,(Builtin.append_ #[34,34] ty #[.slice (some ⟨b,0,none⟩) c cap,.slice (some A) (n-(c+1)) cc]).run Tryz.prog w.drew=.ok (.slice (some ⟨b,0,none⟩) (c+(n-(c+1))) cap) (w.drew.setRow b (wr vs (c*3) NEWS)):=fun ty cc=>by
  (have hfit:0+c*i0.size+NEWS.length<=vs.size:=by rw[hz1,hnl];omega);have h:=qI (w:=w.drew) 34 34 ty 27 i0 (by rw[vJ];exact t0) (by rw[vJ];exact hi0) b 0 c cap (.slice (some A) (n-(c+1)) cc) (n-(c+1)) NEWS (Src.ofSlice w.drew (by rw[vJ];exact t0) A (n-(c+1)) cc NEWS (by rw[hz1];exact hnl) hsrc s2) oM hb hfit
  rw[vJ,hz1,xA] at h;exact h
 obtain⟨W1,hW1⟩:∃ W1,w.drew.setRow b (wr vs (c*3) NEWS)=W1:=⟨_,rfl⟩;rw[hW1] at hap ⊢;have hb1:W1.heap[b]?=some (.cells (wr vs (c*3) NEWS) T (0,0)):=by rw[<-hW1];exact setRow_heap w.drew b vs _ T _ hb
 have hcl:∀ ty cc,(Builtin.clear_ #[34] ty #[.slice (some ⟨b,(c+(n-(c+1)))*3,none⟩) (n-(c+(n-(c+1)))) cc]).run Tryz.prog W1=.ok (.tuple #[]) (W1.setRow b (wr (wr vs (c*3) NEWS) ((c+(n-(c+1)))*3) [.bool false,.slice none 0 0,.slice none 0 0])):=fun ty cc=>by
  (have e1:n-(c+(n-(c+1)))=1:=by omega);have e2:(Builtin.zeroCells (Value.agg #[.bool false,.slice none 0 0,.slice none 0 0]).cells 1).toList=[.bool false,.slice none 0 0,.slice none 0 0]:=by simp[Builtin.zeroCells,Value.cells];rfl
  rw[e1];have h:=lA (P:=Tryz.prog) W1 34 27 ty (.agg #[.bool false,.slice none 0 0,.slice none 0 0]) t0 Tryz.zeroValue27 b ((c+(n-(c+1)))*3) 1 cc T (by decide) hb1 (by rw[e2,vV (by rw[hnl];omega)];show _+3<=_;omega) (by rw[e2];intro v hv;simp at hv;rcases hv with rfl|rfl <;> rfl);rw[e2] at h;exact h
 clear hb hsz h1 hNEWS hnl hng hsrc s2 hW1 hb1
 go_enter Tryz.func95,Tryz.ntmps95
 go_wp2_with fail
 go_region_law (refine p6 rfl (.tmp 22) (.tmp 25) 34 34 rfl (.slice (some ⟨b,0,none⟩) c cap) (.slice (some A) (n-(c+1)) (cap-(c+1))) (by simp[Act.eval,Act.put]) (by simp[Act.eval,Act.put]) (hap _ _) ?_)
 go_wp2_with (at_builtin;refine rB _ rfl _ _ rfl _ rfl (hcl _ _) ?_)
 go_ret
 exact⟨rfl,rfl⟩
theorem zL4 (b n c cap:Nat)(vs:Array Value)(T:TypeId)(w:World)(hb:w.heap[b]?=some (.cells vs T (0,0)))(hc:c<n)(hn:n<=cap)(hsz:cap<=vs.size)(hn40:n<2^40)(h1:∀ k,k<n->(vs.getD k undef).oneCell'=true):Calls Tryz.prog 94 #[.slice (some ⟨b,0,none⟩) n cap,.int .i64 (c:Int),.int .i64 ((c+1:Nat):Int)] w fun e w'=>e=.returned (.slice (some ⟨b,0,none⟩) (c+(n-(c+1))) cap) /\ w'=(w.drew.setRow b (wr vs (c) ((vs.toList.take (n)).drop ((c+1))))).setRow b (wr (wr vs (c) ((vs.toList.take (n)).drop ((c+1)))) (c+(n-(c+1))) [.int .i64 0]):=by
 have t0:=Tryz.underlying35;have t1:=Tryz.typeInfo3;have mixed:Tryz.prog.follows .mixedOrders=true:=by kernel_rfl
 obtain⟨i0,hi0,hz0,hz1,hz2⟩:=info_parts (P:=Tryz.prog) (e:=3) (z:=.int .i64 0) (size:=1) (bytes:=8) (by kernel_rfl);have hlt:c≠c+1:=by omega
 have hic:c<=cap:=by omega
 have hjc:c+1<=cap:=by omega
 have hx1:(0:Int)<=(c:Int)+1:=by omega
 have hx2:(c:Int)+1<=(n:Int):=by omega
 obtain⟨NEWS,hNEWS⟩:∃ l,(vs.toList.take (n)).drop ((c+1))=l:=⟨_,rfl⟩;rw[hNEWS];have hnl:NEWS.length=n-(c+1):=by rw[<-hNEWS];simp;omega
 have hng:∀ (t:Nat) u,NEWS[t]?=some u->(c+1)+t<n/\vs.getD ((c+1)+t) undef=u:=fun t u hu=>by
  (have ht:t<NEWS.length:=(v4.1 hu).1;rw[<-hNEWS,fQ,wG oM] at hu;have h2:vs[(c+1)+t]?=some u:=by simpa using hu);exact⟨by omega,by simp[h2]⟩
 obtain⟨A,hA,hsrc⟩:∃ A:Addr,(if cap=c+1 then some (⟨b,0,none⟩:Addr) else some ⟨b,(c+1),none⟩)=some A/\(∀ t u,NEWS[t]?=some u->w.drew.cell? (A.add t)=some u):=by by_cases h:cap=c+1;{refine⟨⟨b,0,none⟩,by simp[h],fun t u hu=>?_⟩;have:=(hng t u hu).1;omega};{refine⟨⟨b,(c+1),none⟩,by simp[h],fun t u hu=>?_⟩;have h2:=hng t u hu;have h3:=qJ (w:=w.drew) hb ((c+1)+t) oM;rw[h2.2] at h3;rw[Addr.add_lit];exact h3}
 have s2:∀ u,u∈NEWS->u.oneCell'=true:=fun u hu=>by obtain⟨t,ht⟩:=mL.1 hu;have:=hng t u ht;rw[<-this.2];exact h1 _ this.1
 have hap:∀ ty cc,(Builtin.append_ #[35,35] ty #[.slice (some ⟨b,0,none⟩) c cap,.slice (some A) (n-(c+1)) cc]).run Tryz.prog w.drew=.ok (.slice (some ⟨b,0,none⟩) (c+(n-(c+1))) cap) (w.drew.setRow b (wr vs (c) NEWS)):=fun ty cc=>by
  (have hfit:0+c*i0.size+NEWS.length<=vs.size:=by rw[hz1,hnl];omega);have h:=qI (w:=w.drew) 35 35 ty 3 i0 (by rw[vJ];exact t0) (by rw[vJ];exact hi0) b 0 c cap (.slice (some A) (n-(c+1)) cc) (n-(c+1)) NEWS (Src.ofSlice w.drew (by rw[vJ];exact t0) A (n-(c+1)) cc NEWS (by rw[hz1,c8];exact hnl) hsrc s2) oM hb hfit
  rw[vJ,hz1,xA,c8] at h;exact h
 obtain⟨W1,hW1⟩:∃ W1,w.drew.setRow b (wr vs (c) NEWS)=W1:=⟨_,rfl⟩;rw[hW1] at hap ⊢;have hb1:W1.heap[b]?=some (.cells (wr vs (c) NEWS) T (0,0)):=by rw[<-hW1];exact setRow_heap w.drew b vs _ T _ hb
 have hcl:∀ ty cc,(Builtin.clear_ #[35] ty #[.slice (some ⟨b,c+(n-(c+1)),none⟩) (n-(c+(n-(c+1)))) cc]).run Tryz.prog W1=.ok (.tuple #[]) (W1.setRow b (wr (wr vs (c) NEWS) (c+(n-(c+1))) [.int .i64 0])):=fun ty cc=>by
  (have e1:n-(c+(n-(c+1)))=1:=by omega);have e2:(Builtin.zeroCells (Value.int .i64 0).cells 1).toList=[.int .i64 0]:=by simp[Builtin.zeroCells,Value.cells]
  rw[e1];have h:=lA (P:=Tryz.prog) W1 35 3 ty (.int .i64 0) t0 Tryz.zeroValue3 b (c+(n-(c+1))) 1 cc T (by decide) hb1 (by rw[e2,vV (by rw[hnl];omega)];show _+1<=_;omega) (by rw[e2];intro v hv;simp at hv;subst hv;rfl);rw[e2] at h;exact h
 clear hb hsz h1 hNEWS hnl hng hsrc s2 hW1 hb1
 go_enter Tryz.func94,Tryz.ntmps94
 go_wp2_with fail
 go_region_law (refine p6 rfl (.tmp 22) (.tmp 25) 35 35 rfl (.slice (some ⟨b,0,none⟩) c cap) (.slice (some A) (n-(c+1)) (cap-(c+1))) (by simp[Act.eval,Act.put]) (by simp[Act.eval,Act.put]) (hap _ _) ?_)
 go_wp2_with (at_builtin;refine rB _ rfl _ _ rfl _ rfl (hcl _ _) ?_)
 go_ret
 exact⟨rfl,rfl⟩
theorem zQR (xs:List (List D))(c:Nat)(hc:c<xs.length)(hn:xs.length<2^40)(m k:Nat):Sound 95 [.osl m 3 (fun _=>0) (fun _=>xs.length),.int .i64 (fun _=>(c:Int)),.int .i64 (fun _=>((c+1:Nat):Int))] [] [(m,.arr 3 (fun _=>xs))] (.osl k 3 (fun _=>0) (fun _=>(xs.eraseIdx c).length)) [] [(k,.arr 3 (fun _=>xs.eraseIdx c))]:=by
 refine⟨zM1 (fn:=Tryz.f95) (by rw[vJ];rfl) rfl rfl,?_⟩;intro w S β vals hS hO hvs hrep;obtain⟨v0,v1,v2,rfl⟩:∃ v0 v1 v2,vals=#[v0,v1,v2]:=by
  match vals,hvs with
  |⟨[a,b,c]⟩,_=>exact⟨a,b,c,rfl⟩
 have r0:=hrep 0 (by show 0<3;decide);have r1:=hrep 1 (by show 1<3;decide);have r2:=hrep 2 (by show 2<3;decide);have e1:v1=.int .i64 (c:Int):=w9 r1;have e2:v2=.int .i64 ((c+1:Nat):Int):=w9 r2;obtain⟨b,cap,vs,T,hβ,hlc,hw,hsz,hv,hce,hle⟩:=zMU hO (show Rep w S β v0 (.osl m 3 (fun _=>0) (fun _=>xs.length)) from r0) rfl rfl (by show 0<xs.length;omega);subst e1 e2 hv;rw[vJ];have hone:∀ k,k<xs.length*3->(vs.getD k undef).oneCell'=true:=fun k hk=>by have:=(hce.at_ (k/3) (k%3) ((cQ (by decide)).2 hk) (vR _ (by decide))).2;rw[show k/3*3+k%3=k by omega,yC,wG hk] at this;simpa using this
 refine (zL3 b xs.length c cap vs T w hw hc hlc oM hn hone).mono ?_;rintro e w' ⟨rfl,hw'⟩;rw[setRow_setRow] at hw';have hlen:c+(xs.length-(c+1))=(xs.eraseIdx c).length:=by rw[zFC hc];omega
 rw[hlen] at hw' ⊢;have hL:(vs.toList.take (xs.length*3)).length=xs.length*3:=by rw[y4];simp;omega
 have hnl:((vs.toList.take (xs.length*3)).drop ((c+1)*3)).length=(xs.length-(c+1))*3:=by rw[kS,hL];omega
 have hcc:=(hce.take c).append (hce.drop (c+1));rw[<-List.eraseIdx_eq_take_drop_succ] at hcc;refine zDN hS hO hβ hw hw' ?_ (els':=fun _=>xs.eraseIdx c) hcc (by rw[hcc.len];omega) ?_ (by show (xs.eraseIdx c).length<=cap;omega) hsz;{rw[vV (by rw[vV (by rw[hnl];omega)];show _+3<=_;omega),vV (by rw[hnl];omega)]};{intro k hk;rw[hcc.len] at hk;rw[kF (by rw[vV (by rw[hnl];omega)];show _+3<=_;omega),if_neg (by show ¬(_/\_);omega),kF (by rw[hnl];omega),hnl,yC (l:=_++_)];by_cases hkc:k<c*3;{rw[if_neg oM,uD (by rw[y4,hL];omega),wG hkc,wG oM];simp};{rw[if_pos oM,uN (by rw[y4,hL];omega),y4,hL,tD oM,yC]}}
theorem zWZ (xs:List (List D))(c:Nat)(hc:c<xs.length)(hn:xs.length<2^40)(m k:Nat):Sound 94 [.osl m 1 (fun _=>0) (fun _=>xs.length),.int .i64 (fun _=>(c:Int)),.int .i64 (fun _=>((c+1:Nat):Int))] [] [(m,.arr 1 (fun _=>xs))] (.osl k 1 (fun _=>0) (fun _=>(xs.eraseIdx c).length)) [] [(k,.arr 1 (fun _=>xs.eraseIdx c))]:=by
 refine⟨zM1 (fn:=Tryz.f94) (by rw[vJ];rfl) rfl rfl,?_⟩;intro w S β vals hS hO hvs hrep;obtain⟨v0,v1,v2,rfl⟩:∃ v0 v1 v2,vals=#[v0,v1,v2]:=by
  match vals,hvs with
  |⟨[a,b,c]⟩,_=>exact⟨a,b,c,rfl⟩
 have r0:=hrep 0 (by show 0<3;decide);have r1:=hrep 1 (by show 1<3;decide);have r2:=hrep 2 (by show 2<3;decide);have e1:v1=.int .i64 (c:Int):=w9 r1;have e2:v2=.int .i64 ((c+1:Nat):Int):=w9 r2;obtain⟨b,cap,vs,T,hβ,hlc,hw,hsz,hv,hce,hle⟩:=zMU hO (show Rep w S β v0 (.osl m 1 (fun _=>0) (fun _=>xs.length)) from r0) rfl rfl (by show 0<xs.length;omega);subst e1 e2 hv;rw[vJ];have hone:∀ k,k<xs.length*1->(vs.getD k undef).oneCell'=true:=fun k hk=>by have:=(hce.at_ (k/1) (k%1) ((cQ (by decide)).2 hk) (vR _ (by decide))).2;rw[show k/1*1+k%1=k by omega,yC,wG hk] at this;simpa using this
 refine (zL4 b xs.length c cap vs T w hw hc hlc oM hn (by simpa using hone)).mono ?_;rintro e w' ⟨rfl,hw'⟩;rw[setRow_setRow] at hw';have hlen:c+(xs.length-(c+1))=(xs.eraseIdx c).length:=by rw[zFC hc];omega
 rw[hlen] at hw' ⊢;have hL:(vs.toList.take (xs.length*1)).length=xs.length*1:=by rw[y4];simp;omega
 have hnl:((vs.toList.take (xs.length*1)).drop ((c+1)*1)).length=(xs.length-(c+1))*1:=by rw[kS,hL];omega
 have hcc:=(hce.take c).append (hce.drop (c+1));rw[<-List.eraseIdx_eq_take_drop_succ] at hcc;refine zDN hS hO hβ hw hw' ?_ (els':=fun _=>xs.eraseIdx c) hcc (by rw[hcc.len];omega) ?_ (by show (xs.eraseIdx c).length<=cap;omega) hsz;{simp only[c8] at hnl;rw[vV (by rw[vV (by rw[hnl];omega)];show _+1<=_;omega),vV (by rw[hnl];omega)]};{intro k hk;rw[hcc.len] at hk;simp only[c8] at hnl hk hL ⊢;rw[kF (by rw[vV (by rw[hnl];omega)];show _+1<=_;omega),if_neg (by show ¬(_/\_);omega),kF (by rw[hnl];omega),hnl,yC (l:=_++_)];by_cases hkc:k<c;{rw[if_neg oM,uD (by rw[y4,hL];omega),wG hkc,wG oM];simp};{rw[if_pos oM,uN (by rw[y4,hL];omega),y4,hL,tD oM,yC]}}
end Go.Proofs.YtfainocfaddbdaaGreat
