/- A part of the proof: BrE, SzB, SzC, SzD, SzE, SxQ. -/
import Derived.Test.YtfainocfaddbdaaGreatY25
import Derived.Test.YtfainocfaddbdaaGreatY35
import Derived.Test.YtfainocfaddbdaaGreatY36
import Derived.Test.YtfainocfaddbdaaGreatY19
set_option linter.all false
namespace Go.Proofs.YtfainocfaddbdaaGreat
open Go
set_option maxRecDepth 100000
set_option maxHeartbeats 4000000
theorem zL1 {H:Type}(d:DataW H):1<=Rows.uptoBulk d:=by
 cases d with
 |lit l=>cases l <;> simp[Rows.uptoBulk]
 |_=>simp[Rows.uptoBulk]
theorem nU {H:Type}{d:DataW H}:∀ {l:List (DataW H)},d∈l->Rows.uptoBulk d<=Rows.uptoBulkAll l
 |[],h=>absurd h (by simp)| x::r,h=>by simp only[Rows.uptoBulkAll];rcases List.mem_cons.1 h with e|e;{subst e;omega};{have:=nU e;omega}
theorem zFH {H:Type}:∀ (l:List (DataW H)),l.length<=Rows.uptoBulkAll l
 |[]=>Nat.zero_le _| x::r=>by have:=zL1 x;have:=zFH r;simp only[Rows.uptoBulkAll,List.length_cons];omega
structure ElB (w:World) (t:TypeId) (k:Nat) {α:Type} (G:α->Nat->Prop) (p:α->List PV):Prop where
 sz:Tryz.prog.cellsOf t=k
 up:∀ a n m,n<=m->G a n->G a m
 rd:∀ {H:Type} {enc:TypeId×Value->H} {sp:Nat->Bool} {n:Nat} {cs:List Value} {x:DataW H×List MemPlace},DataW.trod enc Tryz.prog w 0 sp true n t cs=some x->∃ a,G a (Rows.uptoBulk x.1)/\Cs w cs (xJ (p a))
theorem ElB.map {w t k}{α β:Type}{G:α->Nat->Prop}{p:α->List PV}{G':β->Nat->Prop}{p':β->List PV}(h:ElB w t k G p)(f:α->β)(hp:∀ a,xJ (p' (f a))=xJ (p a))(hG:∀ a n,G a n->G' (f a) n)(hu:∀ a n m,n<=m->G' a n->G' a m):ElB w t k G' p' :=
 ⟨h.sz,hu,fun hx=>by obtain⟨a,h1,h2⟩:=h.rd hx;exact⟨f a,hG a _ h1,by rw[hp a];exact h2⟩⟩
theorem ElR.bulk {w t k}{α:Type}{G:α->Prop}{p:α->List PV}(h:ElR w t k G p):ElB w t k (fun a _=>G a) p :=
 ⟨h.sz,fun _ _ _ _ h=>h,fun hx=>h.rd hx⟩
theorem zCP {w t e k}{α:Type}{G:α->Nat->Prop}{p:α->List PV}(ht:Tryz.prog.underlying t=some (.slice e))(hs:Tryz.prog.cellsOf t=1)(hk:0<k)(he:ElB w e k G p):ElB w t 1 (fun (l:List α) n=>(∀ a,a∈l->G a n)/\l.length<=n) (fun l=>[.sl (fun _=>enc p l)]) :=
 ⟨hs,fun l n m h g=>⟨fun a ha=>he.up a n m h (g.1 a ha),Nat.le_trans g.2 h⟩,fun {H enc' sp n cs x} hx=>by
  (rcases Go.Deep.open_slice ht hx with⟨rfl,_⟩|⟨a,len,cap,m,n',D,Pl,rfl,hb,hl,hm,hmm,hxe,hi⟩;{exact⟨[],⟨fun _ h=>absurd h (by simp),Nat.zero_le _⟩,⟨.sl0 _ _,rfl⟩,trivial⟩};have hbulk:Rows.uptoBulkAll ((List.range len).map D)<=Rows.uptoBulk x.1:=by rw[hxe];simp only[Rows.uptoBulk];omega);have hbl:len<=Rows.uptoBulk x.1:=by have:=zFH ((List.range len).map D);rw[List.length_map,List.length_range] at this;omega
  (have hbp:∀ i,i<len->Rows.uptoBulk (D i)<=Rows.uptoBulk x.1:=fun i hi=>Nat.le_trans (nU (List.mem_map_of_mem (List.mem_range.2 hi))) hbulk;have hlm:len<=m:=by rw[hmm];split <;> omega);rcases Nat.eq_zero_or_pos len with h0|h0
  {subst h0;exact⟨[],⟨fun _ h=>absurd h (by simp),Nat.zero_le _⟩,⟨.sl0 _ _,rfl⟩,trivial⟩};rw[he.sz] at hi;have key:∀ i,i<len->∃ y:List Value×α,w.cells? 0 (a.add (i*k)) k=some y.1/\G y.2 (Rows.uptoBulk x.1)/\Cs w y.1 (xJ (p y.2)):=fun i hil=>by obtain⟨cs',h1,h2⟩:=hi i (by omega);obtain⟨y,g1,g2⟩:=he.rd h2;exact⟨(cs',y),h1,he.up _ _ _ (hbp i hil) g1,g2⟩
  haveI:Inhabited (List Value×α):=⟨Classical.choose (key 0 h0)⟩
  obtain⟨Y,hY⟩:=Go.Deep.choose_lt key;have hcell:∀ i j,i<len->j<k->w.cell? (a.add (i*k+j))=some ((Y i).1.getD j undef):=fun i j hi' hj=>by
   (obtain⟨h1,_,_⟩:=hY i hi';obtain⟨_,h2,h3⟩:=World.cells?_some h1;have:=h3 j hj;rw[Go.Deep.add_add] at this;rw[this,List.getD_eq_getElem?_getD];have:j<(Y i).1.length:=by omega);simp[this]
  obtain⟨b,o,sp'⟩:=a;have hsp:sp'=none:=by
   have:=hcell 0 0 h0 hk;unfold World.cell? at this;split at this
   ·cases sp' with
    |none=>rfl| some s=>simp[Addr.add] at this
   {cases this}
  subst hsp;have hS:b<w.heap.size:=World.cells?_block (a:=⟨b,o,none⟩) (by have:=(hY 0 h0).1;rw[Nat.zero_mul] at this;exact this) hk
  (have hlen:((List.range len).map fun i=>(Y i).2).length=len:=by simp);have hel:∀ i,i<len->(enc p ((List.range len).map fun i=>(Y i).2)).getD i []=xJ (p (Y i).2):=fun i hi'=>by simp[Go.Proofs.YtfainocfaddbdaaGreat.enc,hi']
  refine⟨(List.range len).map fun i=>(Y i).2,⟨fun z hz=>?_,by rw[hlen];exact hbl⟩,⟨?_,rfl⟩,trivial⟩;{obtain⟨i,hi',rfl⟩:=List.mem_map.1 hz;exact (hY i (List.mem_range.1 hi')).2.1}
  (have hel2:(enc p ((List.range len).map fun i=>(Y i).2)).length=len:=by rw[zM,hlen]);have hk':∀ i,i<len->(xJ (p (Y i).2)).length=k:=fun i hi'=>by obtain⟨h1,_,h3⟩:=hY i hi';obtain⟨_,h2,_⟩:=World.cells?_some h1;rw[<-h3.len];exact h2
  have:=RepD.sl (w:=w) (S:=InW w) (b:=b) (o:=o) (cap:=cap) (s:=k) (els:=enc p ((List.range len).map fun i=>(Y i).2)) (fun i j=>(Y i).1.getD j undef)
   (fun h=>by rw[h] at hel2;simp at hel2;omega) (by rw[hel2];exact hl) (fun _ _ _ _=>hS)
   (fun e' he'=>by obtain⟨z,hz,rfl⟩:=List.mem_map.1 he';obtain⟨i,hi',rfl⟩:=List.mem_map.1 hz;exact hk' i (List.mem_range.1 hi'))
   (fun i j hi' hj=>by rw[hel2] at hi';have:=hcell i j hi' hj;rw[zSB] at this;rw[Nat.add_assoc];exact this)
   (fun i j hi' hj=>by rw[hel2] at hi';exact ((hY i hi').2.2.get j (by rw[hk' i hi'];exact hj)).2)
   (fun i j hi' hj=>by rw[hel2] at hi';rw[hel i hi'];exact ((hY i hi').2.2.get j (by rw[hk' i hi'];exact hj)).1)
  rw[hel2] at this;exact this⟩
theorem ElB.cut {w t k}{α:Type}{G:α->Nat->Prop}{p:α->List PV}(h:ElB w t k G p){H:Type}{enc:TypeId×Value->H}{sp:Nat->Bool}{n o:Nat}{cs:List Value}{x:DataW H×List MemPlace} (hx:DataW.trod enc Tryz.prog w 0 sp true n t ((cs.drop o).take (Tryz.prog.cellsOf t))=some x):∃ a,G a (Rows.uptoBulk x.1)/\Cs w ((cs.drop o).take k) (xJ (p a)):=by rw[h.sz] at hx;exact h.rd hx
theorem ebS2 {w t k0 k1}{f0 f1:Field}{α0 α1:Type}{G0:α0->Nat->Prop}{p0:α0->List PV}{G1:α1->Nat->Prop}{p1:α1->List PV}(ht:Tryz.prog.underlying t=some (.struct #[f0,f1]))(hs:Tryz.prog.cellsOf t=k0+k1) (o0:f0.offset=0) (o1:f1.offset=k0) (h0:ElB w f0.type k0 G0 p0) (h1:ElB w f1.type k1 G1 p1):ElB w t (k0+k1) (fun (a:α0×α1) n=>G0 a.1 n/\G1 a.2 n) (fun a=>p0 a.1++p1 a.2) :=
 ⟨hs,fun a n m h g=>⟨h0.up _ n m h g.1,h1.up _ n m h g.2⟩,fun hx=>by obtain⟨y0,y1,n,hxe,hl,g0,g1⟩:=Go.ChangeShapes.trod_struct2 ht hx;obtain⟨a0,u0,v0⟩:=h0.cut g0;obtain⟨a1,u1,v1⟩:=h1.cut g1;rw[o0,List.drop_zero] at v0;rw[o1,List.take_of_length_le (by rw[List.length_drop,hl,hs];omega)] at v1;have:=v0.app v1;rw[List.take_append_drop] at this;refine⟨(a0,a1),⟨h0.up _ _ _ ?_ u0,h1.up _ _ _ ?_ u1⟩,by rw[t5];exact this⟩ <;> (rw[hxe];simp only[Rows.uptoBulk,Rows.uptoBulkAll];omega)⟩
theorem ebS3 {w t k0 k1 k2}{f0 f1 f2:Field}{α0 α1 α2:Type}{G0:α0->Nat->Prop}{p0:α0->List PV}{G1:α1->Nat->Prop}{p1:α1->List PV}{G2:α2->Nat->Prop}{p2:α2->List PV}(ht:Tryz.prog.underlying t=some (.struct #[f0,f1,f2]))(hs:Tryz.prog.cellsOf t=k0+(k1+k2)) (o0:f0.offset=0) (o1:f1.offset=k0) (o2:f2.offset=k0+k1) (h0:ElB w f0.type k0 G0 p0) (h1:ElB w f1.type k1 G1 p1) (h2:ElB w f2.type k2 G2 p2):ElB w t (k0+(k1+k2)) (fun (a:α0×α1×α2) n=>G0 a.1 n/\G1 a.2.1 n/\G2 a.2.2 n) (fun a=>p0 a.1++(p1 a.2.1++p2 a.2.2)) :=
 ⟨hs,fun a n m h g=>⟨h0.up _ n m h g.1,h1.up _ n m h g.2.1,h2.up _ n m h g.2.2⟩,fun {H enc sp m cs x} hx=>by obtain⟨y0,y1,y2,n,hxe,hl,g0,g1,g2⟩:=Go.Deep.trod_struct3 ht hx;obtain⟨a0,u0,v0⟩:=h0.cut g0;obtain⟨a1,u1,v1⟩:=h1.cut g1;obtain⟨a2,u2,v2⟩:=h2.cut g2;rw[o0,List.drop_zero] at v0;rw[o1] at v1;rw[o2,List.take_of_length_le (by rw[List.length_drop,hl,hs];omega)] at v2;rw[<-List.drop_drop] at v2;have e1:=v1.app v2;rw[List.take_append_drop] at e1;have:=v0.app e1;rw[List.take_append_drop] at this;refine⟨(a0,a1,a2),⟨h0.up _ _ _ ?_ u0,h1.up _ _ _ ?_ u1,h2.up _ _ _ ?_ u2⟩,by rw[t5,t5];exact this⟩ <;> (rw[hxe];simp only[Rows.uptoBulk,Rows.uptoBulkAll];omega)⟩
theorem bNat (w:World):ElB w 25 1 (fun l n=>l.length<=n) (fun l=>[nat l]) :=
 (zCP (k:=1) Tryz.underlying25 (by kernel_rfl) (by decide) (rU32 w).bulk).map (fun l=>l) (fun _=>rfl) (fun _ _ h=>h.2) (fun _ _ _ h g=>Nat.le_trans g h)
theorem bRat (w:World):ElB w 27 3 (fun (x:R) n=>x.sz n) (fun x:R=>[.bool (fun _=>x.neg),nat x.num,nat x.den]) :=
 (ebS3 (k0:=1) (k1:=1) (k2:=1) Tryz.underlying27 (by kernel_rfl) rfl rfl rfl (zSX w).bulk (bNat w) (bNat w)).map (fun a=>⟨a.1,a.2.1,a.2.2⟩) (fun _=>rfl) (fun _ _ h=>⟨h.2.1,h.2.2⟩) (fun _ _ _ h g=>g.mono h)
theorem zS7 (w:World):ElB w 54 4 (fun (t:Int×R) n=>t.2.sz n) tc :=
 (ebS2 (k0:=1) (k1:=3) Tryz.underlying54 (by kernel_rfl) rfl rfl (rInt w).bulk (bRat w)).map (fun a=>(a.1,a.2)) (fun _=>rfl) (fun _ _ h=>h.2) (fun _ _ _ h g=>g.mono h)
theorem zR7 (w:World):ElB w 23 1 (fun (l:List (Int×R)) n=>(∀ t,t∈l->t.2.sz n)/\l.length<=n) (fun l=>[tsv l]) :=
 (zCP (k:=4) Tryz.underlying23 (by kernel_rfl) (by decide) (zS7 w)).map (fun l=>l) (fun _=>rfl) (fun _ _ h=>h) (fun _ _ _ h g=>⟨fun t ht=>(g.1 t ht).mono h,Nat.le_trans g.2 h⟩)
structure A.bk (a:A) (n:Nat):Prop where
 t:∀ t,t∈a.ts->t.2.sz n
 len:a.ts.length<=n
 c:a.c.sz n
theorem A.bk.mono {a:A}{n m:Nat}(h:a.bk n)(hm:n<=m):a.bk m:=⟨fun t ht=>(h.t t ht).mono hm,Nat.le_trans h.len hm,h.c.mono hm⟩
theorem bAff (w:World):ElB w 29 4 (fun (a:A) n=>a.bk n) ac :=
 (ebS2 (k0:=1) (k1:=3) Tryz.underlying29 (by kernel_rfl) rfl rfl (zR7 w) (bRat w)).map (fun a=>⟨a.1,a.2⟩) (fun _=>rfl) (fun _ _ h=>⟨h.1.1,h.1.2,h.2⟩) (fun _ _ _ h g=>g.mono h)
theorem zS8 (w:World):ElB w 22 1 (fun (l:List A) n=>(∀ a,a∈l->a.bk n)/\l.length<=n) (fun l=>[alv l]) :=
 (zCP (k:=4) Tryz.underlying22 (by kernel_rfl) (by decide) (bAff w)).map (fun l=>l) (fun _=>rfl) (fun _ _ h=>h) (fun _ _ _ h g=>⟨fun t ht=>(g.1 t ht).mono h,Nat.le_trans g.2 h⟩)
structure Prg.bk (P:Prg) (n:Nat):Prop where
 v:-9223372036854775808<=P.v/\P.v<=9223372036854775807
 rows:∀ a,a∈P.rows->a.bk n
 len:P.rows.length<=n
 ob:P.ob.bk n
theorem bPrg (w:World):ElB w 31 6 (fun (P:Prg) n=>P.bk n) pgc :=
 (ebS3 (k0:=1) (k1:=1) (k2:=4) Tryz.underlying31 (by kernel_rfl) rfl rfl rfl (rInt w).bulk (zS8 w) (bAff w)).map (fun a=>⟨a.1,a.2.1,a.2.2⟩) (fun _=>rfl)
  (fun _ _ h=>⟨by simpa[Lit.wf,IntKind.min,IntKind.max,IntKind.signed,IntKind.bits] using h.1,h.2.1.1,h.2.1.2,h.2.2⟩) (fun _ _ _ h g=>⟨g.v,fun a ha=>(g.rows a ha).mono h,Nat.le_trans g.len h,g.ob.mono h⟩)
theorem A.bk.sz {a:A}{n m:Nat}(h:a.bk n)(hn:n<=2^20)(hm:n<=m):a.sz m:=⟨⟨by have:=h.len;omega,fun t ht=>(h.t t ht).mono hm⟩,h.c.mono hm⟩
theorem Prg.bk.sz {P:Prg}{n m:Nat}(h:P.bk n)(hn:n<=2^20)(hm:n<=m):P.sz m:=⟨⟨by have:=h.len;omega,fun a ha=>(h.rows a ha).sz hn hm⟩,h.ob.sz hn hm⟩
theorem zPG {w:World}{cs:Array Value}{pv:List PV}(hf:yL qS pv=true)(h:Cs w cs.toList (xJ pv)):Rep w (InW w) β0 (.agg cs) (.agg pv):=by
 have hl:=h.len;rw[vX] at hl;refine .agg (by simpa using hl) fun j hj=>?_;have:=h.get j (by rw[vX];exact hj);rw[qF] at this;refine .c (y7 rfl hf j) ?_;have e:cs.toList.getD j undef=cs.getD j undef:=by simp[List.getD_eq_getElem?_getD]
 rw[<-e];exact this.1
abbrev prg (v:Nat) (fs:List F) (ob:F):Prg:=⟨v,fs.map fA,fA ob⟩
theorem mT:zO 0=⟨false,[],[]⟩:=by unfold zO;simp[limbs_zero]
theorem zFF (q:Rat)(h:Fits (2^30) q):zJ 30 [rv (zO q),rv (zO q)] (.int .i64 (fun _=>0)):=by
 have hz:=yQ h;have:=s42 (zO q) (zO q) (hz.mono (by decide)) (hz.mono (by decide));rw[y4] at this;have e:kE q q=0:=by unfold kE;rw[if_neg (Rat.lt_irrefl),if_neg (Rat.lt_irrefl)]
 rw[e] at this;exact this
theorem eJ {v:Int}{q:Rat}{r:List (Int×Rat)}{k:Nat}(hq:Fits k q)(hr:∀ t,t∈r->Fits k t.2):∀ t,t∈pc v q r->Fits k t.2:=fun t ht=>by unfold pc at ht;split at ht;{exact hr t ht};{rcases List.mem_cons.1 ht with rfl|ht;{exact hq};{exact hr t ht}}
theorem eH {v:Int}{q:Rat}{k m:Nat}(hq:Fits k q):∀ {d:Bool} {l:List (Int×Rat)},(∀ t,t∈l->Fits m t.2)->∀ t,t∈y5 v q d l->Fits (m+k+1) t.2
 |d,[],_,t,ht=>by unfold y5 at ht;split at ht;{simp at ht};{exact eJ (hq.mono (by omega)) (fun u hu=>absurd hu (by simp)) t ht}| d,u::r,h,t,ht=>by have h1:=h u List.mem_cons_self;have h2:∀ d t,t∈y5 v q d r->Fits (m+k+1) t.2:=fun d=>eH hq (fun x hx=>h x (List.mem_cons_of_mem _ hx));unfold y5 at ht;split at ht;{exact eJ ((jI h1 hq).mono (by omega)) (h2 true) t ht};{split at ht;{exact eJ (hq.mono (by omega)) (eJ (h1.mono (by omega)) (h2 true)) t ht};{exact eJ (h1.mono (by omega)) (h2 d) t ht}}
theorem zSL (ts:List (Int×Rat))(c:Rat)(hv:∀ t,t∈ts->0<=t.1)(hf:∀ t,t∈ts->Fits (2^20) t.2)(hc:Fits (2^20) c)(hp:∀ i,Tfit (2^30) (plusAll [] (ts.take i)))(hl:ts.length<2^30):zJ 128 [tsv (tR ts),rv (zO c)] (.tup [av (fA ⟨plusAll [] ts,c⟩),.int .i64 (fun _=>0)]):=by
 have cc:=s47 (zO c) ((yQ hc).mono (by decide));rw[y4] at cc;have cp:∀ (i:Nat) t,ts[i]?=some t->zJ 72 [av ⟨tR (plusAll [] (ts.take i)),zO c⟩,.int .i64 (fun _=>t.1),rv (zO t.2)] (av ⟨tR (plusAll [] (ts.take (i+1))),zO c⟩):=fun i t ht=>by
  (have:=zPR (plusAll [] (ts.take i)) (zO c) t.1 (zO t.2) (hp i) ((yQ (hf t (List.mem_of_getElem? ht))).mono (by decide));rw[y4] at this;have e:y5 t.1 t.2 false (plusAll [] (ts.take i))=plusAll [] (ts.take (i+1)):=by rw[List.take_add_one,ht];show _=plusAll [] (ts.take i++[t]);rw[tN]);rw[e] at this;exact this
 have hz:tR (plusAll [] (ts.take 0))=[]:=rfl;have hlen:=vP ts;have hT:ts.take ts.length=ts:=List.take_length;show zJ _ _ (.tup [.agg [tsv (tR (plusAll [] ts)),.bool (fun _=>(zO c).neg),nat (zO c).num,nat (zO c).den],_]);obtain⟨Z,hZ⟩:∃ Z,zO c=Z:=⟨_,rfl⟩;obtain⟨T,hTT⟩:∃ T:Nat->List (Int×R),∀ i,tR (plusAll [] (ts.take i))=T i:=⟨_,fun _=>rfl⟩;have hz':T 0=[]:=by rw[<-hTT];rfl
 have hT':tR (plusAll [] ts)=T ts.length:=by rw[<-hTT,hT]
 simp only[hTT,hZ] at cp;rw[hZ] at cc;rw[hT',hZ];clear hp hTT hT hT' hZ hc hz;have hgi:∀ (i:Nat) t,ts[i]?=some t->(tR ts)[i]?=some (t.1,zO t.2):=fun i t ht=>by unfold tR;rw[List.getElem?_map,ht];rfl
 have hv':∀ (i:Nat) t,ts[i]?=some t->0<=t.1:=fun i t ht=>hv t (List.mem_of_getElem? ht);clear hv hf;obtain⟨TS,hTS⟩:∃ TS,tR ts=TS:=⟨_,rfl⟩;rw[hTS] at hlen hgi;rw[hTS];refine sF Tryz.f128 ?_;cbv;refine cA cc ?_;cbv;refine zZ (σ:=Nat×List (Int×R)) (fun s=>⟨[(0,tsv TS),(4,.ptr 4 0),(6,.ptr 6 0),(7,.int .i64 (fun _=>(s.1:Int)))],[(4,.box [.nil,.ff,.nil,.nil]),(6,.box [tsv s.2,.bool (fun _=>Z.neg),nat Z.num,nat Z.den])]⟩)
  (fun s=>s.1<=ts.length/\s.2=T s.1) (fun s=>ts.length-s.1) (0,[]) ⟨Nat.zero_le _,hz'.symm⟩ (wkZ) ?_
 intro s hs;obtain⟨i,W⟩:=s;obtain⟨h1,h2⟩:=hs;dsimp only at h1 h2;cbv;refine zE (fun h5=>?_) (fun h5=>?_)
 ·(have hlt:i<ts.length:=by have:=dE h5;omega);obtain⟨t,ht⟩:=zS hlt
  have hg:=hgi i t ht;have hv1:=hv' i t ht;have cp1:=cp i t ht;obtain⟨V,hV⟩:∃ V,T (i+1)=V:=⟨_,rfl⟩;rw[<-h2,hV] at cp1;obtain⟨q,hq⟩:∃ q,zO t.2=q:=⟨_,rfl⟩;rw[hq] at hg cp1;obtain⟨y,c0⟩:=t;dsimp only at hg hv1 cp1;cbv;refine xB hg uL kM ?_;cbv;refine o4 om ?_;cbv;refine zX 12 (by cbv) ?_;cbv;refine xB hg uL kM ?_;cbv;refine xB hg uL kM ?_;cbv;refine dA cp1 ?_;cbv;exact⟨zD om om,(i+1,V),⟨om,hV.symm⟩,om,wkZ⟩
 ·(have hi:i=ts.length:=by have:=dF h5 (by omega);omega);subst hi
  rw[<-h2];cbv
  (refine rC ?_;cbv)
  exact okA
theorem zQ6 {TS:List (Int×R)}{Z:R}{a:A}(cm:zJ 128 [tsv TS,rv Z] (.tup [av a,.int .i64 (fun _=>0)])):zJ 84 [tsv TS,rv Z] (av a):=by
 refine sF Tryz.f84 ?_;obtain⟨ats,ac0⟩:=a;cbv;refine cA cm ?_;cbv
 (refine rC ?_;cbv)
 exact okA
def frm (c0 c1 c:Int):F:=⟨plusAll [] [(0,(c0:Rat)),(1,(c1:Rat))],(c:Rat)⟩
theorem bB {z:Int}(h:z.natAbs<=8):Fits 1 (z:Rat):=dD (Nat.lt_of_le_of_lt h (by decide)) (Nat.le_refl 1)
theorem zCL {m:Nat}:∀ {g l:List (Int×Rat)},(∀ t,t∈g->Fits 1 t.2)->(∀ t,t∈l->Fits m t.2)->∀ t,t∈plusAll l g->Fits (m+2*g.length) t.2
 |[],l,_,h,t,ht=>h t ht| u::g,l,hg,h,t,ht=>by have e:plusAll l (u::g)=plusAll (y5 u.1 u.2 false l) g:=rfl;rw[e] at ht;have:=zCL (m:=m+2) (g:=g) (l:=y5 u.1 u.2 false l) (fun x hx=>hg x (List.mem_cons_of_mem _ hx)) (eH (hg u List.mem_cons_self) h) t ht;exact this.mono (by rw[List.length_cons];omega)
theorem zBH {c0 c1:Int}(h0:c0.natAbs<=8)(h1:c1.natAbs<=8):∀ t,t∈[((0:Int),(c0:Rat)),(1,(c1:Rat))]->0<=t.1/\Fits 1 t.2:=fun t ht=>by rcases List.mem_cons.1 ht with rfl|ht;{exact⟨Int.le_refl 0,bB h0⟩};{rcases List.mem_cons.1 ht with rfl|ht;{exact⟨show (0:Int)<=1 by decide,bB h1⟩};{simp at ht}}
theorem zOE {c0 c1 c:Int}(h0:c0.natAbs<=8)(h1:c1.natAbs<=8)(h2:c.natAbs<=8):zJ 84 [tsv [(0,zO (c0:Rat)),(1,zO (c1:Rat))],rv (zO (c:Rat))] (av (fA (frm c0 c1 c))):=by have ht:=zBH h0 h1;refine zQ6 (zSL [(0,(c0:Rat)),(1,(c1:Rat))] c (fun t h=>(ht t h).1) (fun t h=>(ht t h).2.mono (by decide)) ((bB h2).mono (by decide)) (fun i=>⟨?_,fun t h=>?_⟩) (show 2<2^30 by decide));{refine Nat.lt_of_le_of_lt (dU _ _) ?_;rw[List.length_take];have:([]:List (Int×Rat)).length=0:=rfl;have:([((0:Int),(c0:Rat)),(1,(c1:Rat))]:List (Int×Rat)).length=2:=rfl;omega};{refine (zCL (m:=1) (g:=[((0:Int),(c0:Rat)),(1,(c1:Rat))].take i) (l:=[]) (fun t h=>(ht t (List.mem_of_mem_take h)).2) (fun t h=>absurd h (by simp)) t h).mono ?_;rw[List.length_take];have:([((0:Int),(c0:Rat)),(1,(c1:Rat))]:List (Int×Rat)).length=2:=rfl;omega}
theorem i6 {c0 c1 c:Int}(h0:c0.natAbs<=8)(h1:c1.natAbs<=8)(h2:c.natAbs<=8):zJ 45 [.int .i64 (fun _=>c0),.int .i64 (fun _=>c1),.int .i64 (fun _=>c)] (av (fA (frm c0 c1 c))):=by
 have cf:=zOE h0 h1 h2;have k0:=s32 c0 (by omega) (by omega);have k1:=s32 c1 (by omega) (by omega);have k2:=s32 c (by omega) (by omega);refine sF Tryz.f45 ?_;obtain⟨a,ha⟩:∃ a,fA (frm c0 c1 c)=a:=⟨_,rfl⟩;rw[ha] at cf;rw[ha];obtain⟨ats,ac0⟩:=a;obtain⟨A0,hA0⟩:∃ a,zO (c0:Rat)=a:=⟨_,rfl⟩;obtain⟨A1,hA1⟩:∃ a,zO (c1:Rat)=a:=⟨_,rfl⟩;obtain⟨A2,hA2⟩:∃ a,zO (c:Rat)=a:=⟨_,rfl⟩;rw[hA0] at k0 cf;rw[hA1] at k1 cf;rw[hA2] at k2 cf;clear hA0 hA1 hA2;cbv;refine cA k0 ?_;cbv;refine cA k1 ?_;cbv;refine cA k2 ?_;cbv;refine cA cf ?_;cbv
 (refine rC ?_;cbv)
 exact okA
theorem zMA:ty 22=.sli 4 80 [.nil,.ff,.nil,.nil]:=by cbv
theorem zSU (a b c d:A)(ha:fA (frm 1 1 0)=a)(hb:fA (frm 1 2 (-4))=b)(hc:fA (frm 1 0 0)=c)(hd:fA (frm 0 1 0)=d):Sound 44 [] [] [] (.agg [.int .i64 (fun _=>2),.osl 5 4 (fun _=>0) (fun _=>3),tsv a.ts,.bool (fun _=>a.c.neg),nat a.c.num,nat a.c.den]) [] [(5,.arr 4 (fun _=>enc ac [b,c,d]))]:=by
 have k0:=i6 (c0:=1) (c1:=1) (c:=0) (by decide) (by decide) (by decide);have k1:=i6 (c0:=1) (c1:=2) (c:=-4) (by decide) (by decide) (by decide);have k2:=i6 (c0:=1) (c1:=0) (c:=0) (by decide) (by decide) (by decide);have k3:=i6 (c0:=0) (c1:=1) (c:=0) (by decide) (by decide) (by decide);rw[ha] at k0;rw[hb] at k1;rw[hc] at k2;rw[hd] at k3;clear ha hb hc hd;refine sF Tryz.f44 ?_;obtain⟨ats,ac0⟩:=a;obtain⟨bts,bc⟩:=b;obtain⟨cts,cc⟩:=c;obtain⟨dts,dc⟩:=d;cbv;refine cA k0 ?_;cbv;refine cA k1 ?_;cbv;refine cA k2 ?_;cbv;refine cA k3 ?_;cbv;refine zIU (by cbv) ?_;cbv;refine tI id (.refl _) rfl (by exact⟨⟨rfl,rfl⟩,trivial⟩) (by rfl) (by exact trivial) ?_;cbv
 repeat' first|exact trivial|exact lR|exact z4 rfl rfl|apply And.intro
theorem zL8 {vars:Int}:∀ {ts:List (Int×R)} {p:Int},vT vars p ts=true->∀ t,t∈tq ts->0<=t.1/\t.1<vars
 |[],_,_,t,h=>absurd h (by simp[tq])| u::r,p,h,t,ht=>by rw[lU] at h;simp only[Bool.and_eq_true,decide_eq_true_eq] at h;obtain⟨⟨⟨⟨⟨h1,h2⟩,h3⟩,h4⟩,h5⟩,h6⟩:=h;rcases List.mem_cons.1 ht with rfl|ht;{exact⟨h1,h2⟩};{exact zL8 h6 t ht}
theorem a9 {a:A}{n:Int}(h:a.valid n=true):fA a.f=a/\a.f.wf n:=by have h1:=zC1 h;unfold A.valid at h;simp only[Bool.and_eq_true] at h;exact⟨h1.1,h1.2,zL8 h.1⟩
theorem zDW {a:A}(h:a.small=true):a.f.fl 2 8:=by unfold A.small R.small at h;simp only[Bool.and_eq_true,decide_eq_true_eq,List.all_eq_true] at h;obtain⟨⟨⟨h1,⟨h2,h3⟩⟩,h4⟩,h5⟩:=h;refine⟨fun t ht=>?_,R.sz.fits ⟨h2.1,h2.2⟩ (by decide),?_⟩;{obtain⟨u,hu,rfl⟩:=List.mem_map.1 (show t∈a.ts.map fun t=>(t.1,t.2.q) from ht);have:=h5 u hu;exact R.sz.fits ⟨this.1.1,this.1.2⟩ (by decide)};{show (tq a.ts).length<=8;rw[show (tq a.ts).length=a.ts.length from List.length_map ..];exact h1}
structure PW (v:Nat) (fs:List F) (ob:F) (k n:Nat):Prop where
 lv:v<=4
 len:fs.length<=9
 rows:∀ f,f∈fs->f.fl k n/\f.wf (v:Int)
 obj:ob.fl k n/\ob.wf (v:Int)
 k1:1<=k
 k2:k<=500
 hn:n<2^20
section
variable {v k n:Nat} {fs:List F} {ob:F}
theorem PW.valid (h:PW v fs ob k n):(prg v fs ob).valid=true:=by have:=h.lv;have:=h.len;unfold Prg.valid;show (decide (0<=(v:Int)/\(v:Int)<=1280/\(fs.map fA).length<=4096)&&(fA ob).valid (v:Int)&&(fs.map fA).all (A.valid (v:Int)))=true;rw[decide_eq_true (by rw[List.length_map];omega),h.obj.2.valid,zSA fun f hf=>(h.rows f hf).2];rfl
theorem PW.sz (h:PW v fs ob k n):(prg v fs ob).sz k where
 rows:=⟨by show (fs.map fA).length<_;rw[List.length_map];have:=h.len;omega,fun a ha=>by obtain⟨f,hf,rfl⟩:=List.mem_map.1 ha;exact ((h.rows f hf).1.fit (by have:=h.hn;omega)).fA⟩
 ob:=(h.obj.1.fit (by have:=h.hn;omega)).fA
structure Ans (v:Nat) (fs:List F) (ob:F) (K:Nat) (s:SolR):Prop where
 sl:Slv v fs ob K s
 sem:Sem fs ob s.st s.val
 call:zJ 20 [pgv (prg v fs ob)] (.tup [slv s,.int .i64 (fun _=>0)])
theorem PW.solve (h:PW v fs ob k n):∃ s,Ans v fs ob (1953125*k) s:=by
 obtain⟨s,hs⟩:=zQW (K:=1953125*k) h.lv h.len h.k1 (fun f hf=>(h.rows f hf).1) h.obj.1 (Nat.le_refl _);have hk:1953125*k<=2^30:=by have:=h.k2;omega
 have h1:=h.hn;have h2:=h.lv;have h3:=h.len;exact⟨s,hs,hs.ok.sem (fun f hf=>(h.rows f hf).2) h.obj.2,zKX v 0 fs ob s (h.sz.mono (by have:=h.k2;omega)) h.valid (by omega) (by omega)
  (fun f hf=>⟨by have:=(h.rows f hf).1.len;omega,(h.rows f hf).2.v⟩) (by have:=h.obj.1.len;omega) h.obj.2.v (fun E hE=>(hs.piv E hE).mono hk) (hs.walk.mono hk) hs.some⟩
end
theorem zI8 {P:Prg}(h:P.small=true):∃ v fs ob,P=prg v fs ob/\fs.length<=8/\PW v fs ob 2 8:=by
 unfold Prg.small mX at h;simp only[Bool.and_eq_true,decide_eq_true_eq,List.all_eq_true] at h;obtain⟨⟨⟨h1,h2,h3⟩,h4⟩,h5⟩:=h;unfold Prg.valid at h5;simp only[Bool.and_eq_true,decide_eq_true_eq,List.all_eq_true] at h5;obtain⟨⟨h6,h7⟩,h8⟩:=h5;obtain⟨n,us,ob⟩:=P;dsimp only at *
 have hn:n=((n.toNat:Nat):Int):=by omega
 have hob:=a9 h7;have e:us.map (fun a=>fA a.f)=us:=by
  refine List.ext_getElem? fun i=>?_;rw[List.getElem?_map];cases hi:us[i]? with
  |none=>rfl| some a=>show some (fA a.f)=some a;rw[(a9 (h8 a (List.mem_of_getElem? hi))).1]
 refine⟨n.toNat,us.map A.f,ob.f,?_,by rw[List.length_map];omega,by omega,by rw[List.length_map];omega,fun f hf=>?_,⟨zDW h4,hn ▸ hob.2⟩,by decide,by decide,by decide⟩;{show (⟨n,us,ob⟩:Prg)=⟨((n.toNat:Nat):Int),(us.map A.f).map fA,fA ob.f⟩;rw[<-hn,List.map_map,hob.1];congr 1;exact e.symm};{obtain⟨a,ha,rfl⟩:=List.mem_map.1 hf;exact⟨zDW (h3 a ha),hn ▸ (a9 (h8 a ha)).2⟩}
def smL:List Nat->(Nat->Rat)->Rat
 |[],_=>0| i::S,f=>f i+smL S f
theorem yV {f g:Nat->Rat}:∀ {S:List Nat},(∀ i,i∈S->f i=g i)->smL S f=smL S g
 |[],_=>rfl| i::S,h=>by rw[smL,smL,h i List.mem_cons_self,yV fun j hj=>h j (List.mem_cons_of_mem _ hj)]
theorem jC {f g:Nat->Rat}:∀ {S:List Nat},smL S (fun i=>f i+g i)=smL S f+smL S g
 |[]=>by simp only[smL];grind| i::S=>by simp only[smL,jC (S:=S)];grind
theorem v5 {a:Rat}{f:Nat->Rat}:∀ {S:List Nat},smL S (fun i=>a*f i)=a*smL S f
 |[]=>by simp only[smL];grind| i::S=>by simp only[smL,v5 (S:=S)];grind
theorem fO {f:Nat->Rat}:∀ {S:List Nat},(∀ i,i∈S->f i=0)->smL S f=0
 |[],_=>rfl| i::S,h=>by rw[smL,h i List.mem_cons_self,fO fun j hj=>h j (List.mem_cons_of_mem _ hj)];grind
theorem mY {f:Nat->Rat}{j:Nat}:∀ {S:List Nat},j∈S->smL S f=f j+smL (S.erase j) f
 |i::S,h=>by by_cases e:i=j;{subst e;rw[List.erase_cons_head];rfl};{rw[List.erase_cons_tail (by simpa using e),smL,smL,mY (S:=S) (by rcases List.mem_cons.1 h with h|h;exact absurd h.symm e;exact h)];grind}
theorem r4 {p:Nat->Bool}{f:Nat->Rat}:∀ {S:List Nat},smL (S.filter p) f=smL S (fun i=>if p i=true then f i else 0)
 |[]=>rfl| i::S=>by by_cases h:p i=true;{rw[List.filter_cons_of_pos h,smL,smL,if_pos h,r4]};{rw[List.filter_cons_of_neg h,smL,if_neg h,r4];grind}
theorem zCJ:∀ (F:List (Nat->Rat)) (S:List Nat),S.Nodup->F.length<S.length->∃ d:Nat->Rat,(∃ j,j∈S/\d j≠0)/\(∀ j,j∉S->d j=0)/\∀ f,f∈F->smL S (fun j=>f j*d j)=0
 |[],S,_,h=>by
  cases S with
  |nil=>simp at h| cons j S=>exact⟨fun i=>if i=j then 1 else 0,⟨j,List.mem_cons_self,by simp⟩,fun i hi=>if_neg fun e=>hi (by rw[e];exact List.mem_cons_self),fun f hf=>absurd hf (by simp)⟩
 |f::F,S,hn,h=>by
  by_cases h0:∀ j,j∈S->f j=0;{obtain⟨d,h1,h2,h3⟩:=zCJ F S hn (by simp only[List.length_cons] at h;omega);refine⟨d,h1,h2,fun g hg=>?_⟩;rcases List.mem_cons.1 hg with rfl|hg;{exact fO fun i hi=>by rw[h0 i hi];grind};{exact h3 g hg}}
  ·(obtain⟨j0,h0⟩:=Classical.not_forall.1 h0;obtain⟨hj,hf0⟩:=Classical.not_imp.1 h0;have hne:=hn.erase j0;have hnm:j0∉S.erase j0:=List.Nodup.not_mem_erase hn;obtain⟨d,⟨j1,h1,h1'⟩,h2,h3⟩:=zCJ (F.map fun g=>fun i=>g i-g j0*(f j0)⁻¹*f i) (S.erase j0) hne (by rw[List.length_map,List.length_erase_of_mem hj];simp only[List.length_cons] at h;omega);have hin:∀ i,i∈S.erase j0->i≠j0:=fun i hi e=>hnm (e ▸ hi);have hcg:∀ g:Nat->Rat,∀ q:Rat,smL (S.erase j0) (fun i=>g i*(if i=j0 then q else d i))=smL (S.erase j0) (fun i=>g i*d i):=fun g q=>yV fun i hi=>by rw[if_neg (hin i hi)]);refine⟨fun i=>if i=j0 then -((f j0)⁻¹*smL (S.erase j0) (fun i=>f i*d i)) else d i,⟨j1,List.mem_of_mem_erase h1,by show (if j1=j0 then _ else d j1)≠0;rw[if_neg (hin j1 h1)];exact h1'⟩,fun i hi=>?_,fun g hg=>?_⟩
   {have:i≠j0:=fun e=>hi (e ▸ hj);show (if i=j0 then _ else d i)=0;rw[if_neg this];exact h2 i fun hm=>hi (List.mem_of_mem_erase hm)}
   ·rw[mY hj];show g j0*(if j0=j0 then _ else d j0)+smL (S.erase j0) (fun i=>g i*(if i=j0 then _ else d i))=0;rw[hcg,if_pos rfl];have hi0:f j0*(f j0)⁻¹=1:=Rat.mul_inv_cancel _ hf0;rcases List.mem_cons.1 hg with rfl|hg
    ·generalize smL (S.erase j0) (fun i=>g i*d i)=s;generalize (g j0)⁻¹=w at *
     grind
    ·(have h4:=h3 _ (List.mem_map_of_mem hg);have h5:smL (S.erase j0) (fun j=>(g j-g j0*(f j0)⁻¹*f j)*d j)=smL (S.erase j0) (fun j=>g j*d j)+-(g j0*(f j0)⁻¹)*smL (S.erase j0) (fun j=>f j*d j):=by rw[<-v5,<-jC];exact yV fun i _=>by grind);rw[h5] at h4;generalize smL (S.erase j0) (fun i=>f i*d i)=s at *
     generalize smL (S.erase j0) (fun i=>g i*d i)=t at *
     generalize (f j0)⁻¹=w at *
     grind
termination_by F=>F.length
decreasing_by all_goals simp only[List.length_cons,List.length_map];omega
inductive Cone (P:(Nat->Rat)->Prop):(Nat->Rat)->Prop where
 |zero:Cone P (fun _=>0)| add {a:Rat} {y z:Nat->Rat}:0<=a->P y->Cone P z->Cone P (fun i=>a*y i+z i)
section
variable {P Q:(Nat->Rat)->Prop} {y z:Nat->Rat}
theorem Cone.to (h:Cone P y)(e:∀ i,y i=z i):Cone P z:=by have:y=z:=funext e;exact this ▸ h
theorem Cone.one (h:P y):Cone P y:=(Cone.add (a:=1) (by decide) h .zero).to fun i=>by grind
theorem Cone.plus (h:Cone P y)(g:Cone P z):Cone P (fun i=>y i+z i):=by
 induction h with
 |zero=>exact g.to fun i=>by grind| add ha hp _ ih=>exact (Cone.add ha hp ih).to fun i=>by grind
theorem Cone.scale {b:Rat}(hb:0<=b)(h:Cone P y):Cone P (fun i=>b*y i):=by
 induction h with
 |zero=>exact Cone.zero.to fun i=>by grind| add ha hp _ ih=>exact (Cone.add (Rat.mul_nonneg hb ha) hp ih).to fun i=>by grind
theorem Cone.bind (h:Cone P y)(g:∀ w,P w->Cone Q w):Cone Q y:=by
 induction h with
 |zero=>exact .zero| add ha hp _ ih=>exact (((g _ hp).scale ha).plus ih)
theorem Cone.nn (h:Cone P y)(g:∀ w,P w->∀ i,0<=w i):∀ i,0<=y i:=by
 induction h with
 |zero=>exact fun i=>Rat.le_refl| @add a w z ha hp _ ih =>
  intro i;have h1:=Rat.mul_nonneg ha (g _ hp i);have h2:=ih i;show 0<=a*w i+z i;grind
theorem Cone.lin (h:Cone P y){M:List Nat}{f:Nat->Rat}(g:∀ w,P w->0<=smL M (fun i=>w i*f i)):0<=smL M (fun i=>y i*f i):=by
 induction h with
 |zero =>
  show 0<=smL M (fun i=>0*f i);rw[fO (f:=fun i=>0*f i) fun i _=>by grind];exact Rat.le_refl
 | @add a w z ha hp _ ih =>
  (have h1:=Rat.mul_nonneg ha (g _ hp);have:smL M (fun i=>(a*w i+z i)*f i)=a*smL M (fun i=>w i*f i)+smL M (fun i=>z i*f i):=by rw[<-v5,<-jC];exact yV fun i _=>by grind);rw[this];grind
theorem Cone.sup {S:Nat->Prop}(h:Cone P y)(g:∀ w,P w->∀ i,0<=w i)(hs:∀ i,¬S i->y i=0):Cone (fun w=>P w/\∀ i,¬S i->w i=0) y:=by
 induction h with
 |zero=>exact .zero| @add a w z ha hp hz ih =>
  (have hzn:=hz.nn g;have h1:∀ i,¬S i->a*w i=0/\z i=0:=fun i hi=>by have h2:=hs i hi;have h3:=Rat.mul_nonneg ha (g _ hp i);have h4:=hzn i;grind);by_cases ha0:a=0;{exact (ih fun i hi=>(h1 i hi).2).to fun i=>by rw[ha0];grind}
  {refine .add ha ⟨hp,fun i hi=>?_⟩ (ih fun i hi=>(h1 i hi).2);rcases Rat.mul_eq_zero.1 (h1 i hi).1 with h2|h2;{exact absurd h2 ha0};{exact h2}}
end
inductive Pair (P:(Nat->Rat)->Prop) (s:(Nat->Rat)->Rat):(Nat->Rat)->Prop where
 |keep {y:Nat->Rat}:P y->s y=0->Pair P s y
 |pair {y z:Nat->Rat}:P y->P z->0<s y->s z<0->Pair P s (fun i=>-(s z)*y i+s y*z i)
structure Lin (s:(Nat->Rat)->Rat):Prop where
 add:∀ y z,s (fun i=>y i+z i)=s y+s z
 mul:∀ a y,s (fun i=>a*y i)=a*s y
section
variable {P:(Nat->Rat)->Prop} {s:(Nat->Rat)->Rat}
theorem Lin.zero (h:Lin s):s (fun _=>0)=0:=by
 have h1:=h.mul 0 (fun _=>0);have:(fun _:Nat=>(0:Rat)*0)=fun _=>0:=funext fun _=>by grind
 rw[this] at h1;rw[h1];grind
theorem Lin.cmb (h:Lin s)(a:Rat)(y z:Nat->Rat):s (fun i=>a*y i+z i)=a*s y+s z:=by rw[h.add (fun i=>a*y i) z,h.mul]
theorem Lin.pair (h:Lin s){w:Nat->Rat}(hw:Pair P s w):s w=0:=by
 cases hw with
 |keep _ h1=>exact h1| @pair y z _ _ _ _=>rw[h.add (fun i=>-(s z)*y i) (fun i=>s y*z i),h.mul,h.mul];grind
theorem zFD (hs:Lin s){p:Nat->Rat}(hp:P p)(hp0:0<s p){w:Nat->Rat}(h:Cone (fun y=>P y/\s y<0) w):∀ {a:Rat},0<=a->∃ z u,Cone (Pair P s) z/\(Cone (fun y=>P y/\0<s y) u\/Cone (fun y=>P y/\s y<0) u)/\∀ i,a*p i+w i=z i+u i:=by
 induction h with
 |zero=>exact fun {a} ha=>⟨fun _=>0,fun i=>a*p i+0,.zero,.inl (.add ha ⟨hp,hp0⟩ .zero),fun i=>by grind⟩| @add b q w hb hq hw ih =>
  intro a ha;have hadd:∀ c,0<=c->Cone (fun y=>P y/\s y<0) (fun i=>c*q i+w i):=fun c hc=>.add hc hq hw;obtain⟨hq1,hq2⟩:=hq;have hpq:Pair P s (fun i=>-(s q)*p i+s p*q i):=.pair hp hq1 hp0 hq2;have hinp:s p*(s p)⁻¹=1:=Rat.mul_inv_cancel _ (by grind);have hinq:s q*(s q)⁻¹=1:=Rat.mul_inv_cancel _ (by grind);have hip:0<(s p)⁻¹:=Rat.inv_pos.2 hp0;have hiq:0<(-(s q))⁻¹:=Rat.inv_pos.2 (by grind);have hinq':(-(s q))*(-(s q))⁻¹=1:=Rat.mul_inv_cancel _ (by grind);generalize (-(s q))⁻¹=iq at *
  generalize (s p)⁻¹=ip at *
  generalize s p=sp at *
  generalize s q=sq at *
  by_cases hc:a*sp<=b * -sq
  ·
   have hk:0<=a*iq:=Rat.mul_nonneg ha (Rat.le_of_lt hiq);refine⟨fun i=>a*iq*(-sq*p i+sp*q i)+0,fun i=>(b-a*sp*iq)*q i+w i,.add hk hpq .zero,.inr (hadd _ ?_),fun i=>?_⟩
   ·(have:0<=(b * -sq-a*sp)*iq:=Rat.mul_nonneg (by grind) (Rat.le_of_lt hiq);have e:(b * -sq-a*sp)*iq=b*(-sq*iq)-a*sp*iq:=by grind);rw[e,hinq'] at this
    grind
   ·(show a*p i+(b*q i+w i)=a*iq*(-sq*p i+sp*q i)+0+((b-a*sp*iq)*q i+w i);have e:a*iq*(-sq*p i+sp*q i)=a*(-sq*iq)*p i+a*sp*iq*q i:=by grind);rw[e,hinq']
    grind
  ·
   have hk:0<=b*ip:=Rat.mul_nonneg hb (Rat.le_of_lt hip);have ha':0<=a-b * -sq*ip:=by
    (have:0<=(a*sp-b * -sq)*ip:=Rat.mul_nonneg (by grind) (Rat.le_of_lt hip);have e:(a*sp-b * -sq)*ip=a*(sp*ip)-b * -sq*ip:=by grind);rw[e,hinp] at this
    grind
   (obtain⟨z,u,h1,h2,h3⟩:=ih ha';refine⟨fun i=>b*ip*(-sq*p i+sp*q i)+z i,u,.add hk hpq h1,h2,fun i=>?_⟩;show a*p i+(b*q i+w i)=b*ip*(-sq*p i+sp*q i)+z i+u i;have e:b*ip*(-sq*p i+sp*q i)=b * -sq*ip*p i+b*(sp*ip)*q i:=by grind);have:=h3 i
   rw[e,hinp];grind
end
end Go.Proofs.YtfainocfaddbdaaGreat
