/- A part of the proof: BrE, SzB, SzC, SzD. -/
import Derived.Test.YtfainocfaddbdaaGreatU25
import Derived.Test.YtfainocfaddbdaaGreatU34
set_option linter.all false
namespace Go.Proofs.YtfainocfaddbdaaGreat
open Go
set_option maxRecDepth 100000
set_option maxHeartbeats 4000000
theorem zSJ {H:Type}(d:DataW H):1<=Rows.uptoBulk d:=by
 cases d with
 |lit l=>cases l <;> simp[Rows.uptoBulk]
 |_=>simp[Rows.uptoBulk]
theorem zAQ {H:Type}{d:DataW H}:∀ {l:List (DataW H)},d∈l->Rows.uptoBulk d<=Rows.uptoBulkAll l
 |[],h=>absurd h (by simp)| x::r,h=>by simp only[Rows.uptoBulkAll];rcases z9.1 h with e|e;{subst e;omega};{have:=zAQ e;omega}
theorem zKT {H:Type}:∀ (l:List (DataW H)),l.length<=Rows.uptoBulkAll l
 |[]=>wH _| x::r=>by have:=zSJ x;have:=zKT r;simp only[Rows.uptoBulkAll,x7];omega
structure ElB (w:World) (t:TypeId) (k:Nat) {α:Type} (G:α->Nat->Prop) (p:α->List PV):Prop where
 sz:Tryz.prog.cellsOf t=k
 up:∀ a n m,n<=m->G a n->G a m
 rd:∀ {H:Type} {enc:TypeId×Value->H} {sp:Nat->Bool} {n:Nat} {cs:List Value} {x:DataW H×List MemPlace},DataW.trod enc Tryz.prog w 0 sp true n t cs=some x->∃ a,G a (Rows.uptoBulk x.1)/\Cs w cs (x6 (p a))
theorem ElB.map {w t k}{α β:Type}{G:α->Nat->Prop}{p:α->List PV}{G':β->Nat->Prop}{p':β->List PV}(h:ElB w t k G p)(f:α->β)(hp:∀ a,x6 (p' (f a))=x6 (p a))(hG:∀ a n,G a n->G' (f a) n)(hu:∀ a n m,n<=m->G' a n->G' a m):ElB w t k G' p' :=
 ⟨h.sz,hu,fun hx=>by obtain⟨a,h1,h2⟩:=h.rd hx;exact⟨f a,hG a _ h1,by rw[hp a];exact h2⟩⟩
theorem ElR.bulk {w t k}{α:Type}{G:α->Prop}{p:α->List PV}(h:ElR w t k G p):ElB w t k (fun a _=>G a) p :=
 ⟨h.sz,fun _ _ _ _ h=>h,fun hx=>h.rd hx⟩
theorem zHS {w t e k}{α:Type}{G:α->Nat->Prop}{p:α->List PV}(ht:Tryz.prog.underlying t=some (.slice e))(hs:Tryz.prog.cellsOf t=1)(hk:0<k)(he:ElB w e k G p):ElB w t 1 (fun (l:List α) n=>(∀ a,a∈l->G a n)/\l.length<=n) (fun l=>[.sl (fun _=>enc p l)]) :=
 ⟨hs,fun l n m h g=>⟨fun a ha=>he.up a n m h (g.1 a ha),vS g.2 h⟩,fun {H enc' sp n cs x} hx=>by
  (rcases Go.Deep.open_slice ht hx with⟨rfl,_⟩|⟨a,len,cap,m,n',D,Pl,rfl,hb,hl,hm,hmm,hxe,hi⟩;{exact⟨[],⟨fun _ h=>absurd h (by simp),wH _⟩,⟨.sl0 _ _,rfl⟩,trivial⟩};have hbulk:Rows.uptoBulkAll ((List.range len).map D)<=Rows.uptoBulk x.1:=by rw[hxe];simp only[Rows.uptoBulk];omega);have hbl:len<=Rows.uptoBulk x.1:=by have:=zKT ((List.range len).map D);rw[y8,dC] at this;omega
  (have hbp:∀ i,i<len->Rows.uptoBulk (D i)<=Rows.uptoBulk x.1:=fun i hi=>vS (zAQ (mO (wZ.2 hi))) hbulk;have hlm:len<=m:=by rw[hmm];split <;> omega);rcases aY len with h0|h0
  {subst h0;exact⟨[],⟨fun _ h=>absurd h (by simp),wH _⟩,⟨.sl0 _ _,rfl⟩,trivial⟩};rw[he.sz] at hi;have key:∀ i,i<len->∃ y:List Value×α,w.cells? 0 (a.add (i*k)) k=some y.1/\G y.2 (Rows.uptoBulk x.1)/\Cs w y.1 (x6 (p y.2)):=fun i hil=>by obtain⟨cs',h1,h2⟩:=hi i oM;obtain⟨y,g1,g2⟩:=he.rd h2;exact⟨(cs',y),h1,he.up _ _ _ (hbp i hil) g1,g2⟩
  haveI:Inhabited (List Value×α):=⟨Classical.choose (key 0 h0)⟩
  obtain⟨Y,hY⟩:=Go.Deep.choose_lt key;have hcell:∀ i j,i<len->j<k->w.cell? (a.add (i*k+j))=some ((Y i).1.getD j undef):=fun i j hi' hj=>by
   (obtain⟨h1,_,_⟩:=hY i hi';obtain⟨_,h2,h3⟩:=World.cells?_some h1;have:=h3 j hj;rw[Go.Deep.add_add] at this;rw[this,yC];have:j<(Y i).1.length:=by omega);simp[this]
  obtain⟨b,o,sp'⟩:=a;have hsp:sp'=none:=by
   have:=hcell 0 0 h0 hk;unfold World.cell? at this;split at this
   ·cases sp' with
    |none=>rfl| some s=>simp[Addr.add] at this
   {cases this}
  subst hsp;have hS:b<w.heap.size:=World.cells?_block (a:=⟨b,o,none⟩) (by have:=(hY 0 h0).1;rw[dN] at this;exact this) hk
  (have hlen:((List.range len).map fun i=>(Y i).2).length=len:=by simp);have hel:∀ i,i<len->(enc p ((List.range len).map fun i=>(Y i).2)).getD i []=x6 (p (Y i).2):=fun i hi'=>by simp[Go.Proofs.YtfainocfaddbdaaGreat.enc,hi']
  refine⟨(List.range len).map fun i=>(Y i).2,⟨fun z hz=>?_,by rw[hlen];exact hbl⟩,⟨?_,rfl⟩,trivial⟩;{obtain⟨i,hi',rfl⟩:=yS.1 hz;exact (hY i (wZ.1 hi')).2.1}
  (have hel2:(enc p ((List.range len).map fun i=>(Y i).2)).length=len:=by rw[zK,hlen]);have hk':∀ i,i<len->(x6 (p (Y i).2)).length=k:=fun i hi'=>by obtain⟨h1,_,h3⟩:=hY i hi';obtain⟨_,h2,_⟩:=World.cells?_some h1;rw[<-h3.len];exact h2
  have:=RepD.sl (w:=w) (S:=InW w) (b:=b) (o:=o) (cap:=cap) (s:=k) (els:=enc p ((List.range len).map fun i=>(Y i).2)) (fun i j=>(Y i).1.getD j undef)
   (fun h=>by rw[h] at hel2;simp at hel2;omega) (by rw[hel2];exact hl) (fun _ _ _ _=>hS)
   (fun e' he'=>by obtain⟨z,hz,rfl⟩:=yS.1 he';obtain⟨i,hi',rfl⟩:=yS.1 hz;exact hk' i (wZ.1 hi'))
   (fun i j hi' hj=>by rw[hel2] at hi';have:=hcell i j hi' hj;rw[zZP] at this;rw[alT9];exact this)
   (fun i j hi' hj=>by rw[hel2] at hi';exact ((hY i hi').2.2.get j (by rw[hk' i hi'];exact hj)).2)
   (fun i j hi' hj=>by rw[hel2] at hi';rw[hel i hi'];exact ((hY i hi').2.2.get j (by rw[hk' i hi'];exact hj)).1)
  rw[hel2] at this;exact this⟩
theorem ElB.cut {w t k}{α:Type}{G:α->Nat->Prop}{p:α->List PV}(h:ElB w t k G p){H:Type}{enc:TypeId×Value->H}{sp:Nat->Bool}{n o:Nat}{cs:List Value}{x:DataW H×List MemPlace} (hx:DataW.trod enc Tryz.prog w 0 sp true n t ((cs.drop o).take (Tryz.prog.cellsOf t))=some x):∃ a,G a (Rows.uptoBulk x.1)/\Cs w ((cs.drop o).take k) (x6 (p a)):=by rw[h.sz] at hx;exact h.rd hx
theorem ebS2 {w t k0 k1}{f0 f1:Field}{α0 α1:Type}{G0:α0->Nat->Prop}{p0:α0->List PV}{G1:α1->Nat->Prop}{p1:α1->List PV}(ht:Tryz.prog.underlying t=some (.struct #[f0,f1]))(hs:Tryz.prog.cellsOf t=k0+k1) (o0:f0.offset=0) (o1:f1.offset=k0) (h0:ElB w f0.type k0 G0 p0) (h1:ElB w f1.type k1 G1 p1):ElB w t (k0+k1) (fun (a:α0×α1) n=>G0 a.1 n/\G1 a.2 n) (fun a=>p0 a.1++p1 a.2) :=
 ⟨hs,fun a n m h g=>⟨h0.up _ n m h g.1,h1.up _ n m h g.2⟩,fun hx=>by obtain⟨y0,y1,n,hxe,hl,g0,g1⟩:=Go.ChangeShapes.trod_struct2 ht hx;obtain⟨a0,u0,v0⟩:=h0.cut g0;obtain⟨a1,u1,v1⟩:=h1.cut g1;rw[o0,uS] at v0;rw[o1,yN (by rw[kS,hl,hs];omega)] at v1;have:=v0.app v1;rw[iQ] at this;refine⟨(a0,a1),⟨h0.up _ _ _ ?_ u0,h1.up _ _ _ ?_ u1⟩,by rw[eQ];exact this⟩ <;> (rw[hxe];simp only[Rows.uptoBulk,Rows.uptoBulkAll];omega)⟩
theorem ebS3 {w t k0 k1 k2}{f0 f1 f2:Field}{α0 α1 α2:Type}{G0:α0->Nat->Prop}{p0:α0->List PV}{G1:α1->Nat->Prop}{p1:α1->List PV}{G2:α2->Nat->Prop}{p2:α2->List PV}(ht:Tryz.prog.underlying t=some (.struct #[f0,f1,f2]))(hs:Tryz.prog.cellsOf t=k0+(k1+k2)) (o0:f0.offset=0) (o1:f1.offset=k0) (o2:f2.offset=k0+k1) (h0:ElB w f0.type k0 G0 p0) (h1:ElB w f1.type k1 G1 p1) (h2:ElB w f2.type k2 G2 p2):ElB w t (k0+(k1+k2)) (fun (a:α0×α1×α2) n=>G0 a.1 n/\G1 a.2.1 n/\G2 a.2.2 n) (fun a=>p0 a.1++(p1 a.2.1++p2 a.2.2)) :=
 ⟨hs,fun a n m h g=>⟨h0.up _ n m h g.1,h1.up _ n m h g.2.1,h2.up _ n m h g.2.2⟩,fun {H enc sp m cs x} hx=>by obtain⟨y0,y1,y2,n,hxe,hl,g0,g1,g2⟩:=Go.Deep.trod_struct3 ht hx;obtain⟨a0,u0,v0⟩:=h0.cut g0;obtain⟨a1,u1,v1⟩:=h1.cut g1;obtain⟨a2,u2,v2⟩:=h2.cut g2;rw[o0,uS] at v0;rw[o1] at v1;rw[o2,yN (by rw[kS,hl,hs];omega)] at v2;rw[<-iN] at v2;have e1:=v1.app v2;rw[iQ] at e1;have:=v0.app e1;rw[iQ] at this;refine⟨(a0,a1,a2),⟨h0.up _ _ _ ?_ u0,h1.up _ _ _ ?_ u1,h2.up _ _ _ ?_ u2⟩,by rw[eQ,eQ];exact this⟩ <;> (rw[hxe];simp only[Rows.uptoBulk,Rows.uptoBulkAll];omega)⟩
theorem bNat (w:World):ElB w 25 1 (fun l n=>l.length<=n) (fun l=>[nat l]) :=
 (zHS (k:=1) Tryz.underlying25 (by kernel_rfl) (by decide) (rU32 w).bulk).map (fun l=>l) (fun _=>rfl) (fun _ _ h=>h.2) (fun _ _ _ h g=>vS g h)
theorem bRat (w:World):ElB w 27 3 (fun (x:R) n=>x.sz n) (fun x:R=>[.bool (fun _=>x.neg),nat x.num,nat x.den]) :=
 (ebS3 (k0:=1) (k1:=1) (k2:=1) Tryz.underlying27 (by kernel_rfl) rfl rfl rfl (yAI w).bulk (bNat w) (bNat w)).map (fun a=>⟨a.1,a.2.1,a.2.2⟩) (fun _=>rfl) (fun _ _ h=>⟨h.2.1,h.2.2⟩) (fun _ _ _ h g=>g.mono h)
theorem yAT (w:World):ElB w 54 4 (fun (t:Int×R) n=>t.2.sz n) tc :=
 (ebS2 (k0:=1) (k1:=3) Tryz.underlying54 (by kernel_rfl) rfl rfl (rInt w).bulk (bRat w)).map (fun a=>(a.1,a.2)) (fun _=>rfl) (fun _ _ h=>h.2) (fun _ _ _ h g=>g.mono h)
theorem zZL (w:World):ElB w 23 1 (fun (l:List (Int×R)) n=>(∀ t,t∈l->t.2.sz n)/\l.length<=n) (fun l=>[tsv l]) :=
 (zHS (k:=4) Tryz.underlying23 (by kernel_rfl) (by decide) (yAT w)).map (fun l=>l) (fun _=>rfl) (fun _ _ h=>h) (fun _ _ _ h g=>⟨fun t ht=>(g.1 t ht).mono h,vS g.2 h⟩)
structure A.bk (a:A) (n:Nat):Prop where
 t:∀ t,t∈a.ts->t.2.sz n
 len:a.ts.length<=n
 c:a.c.sz n
theorem A.bk.mono {a:A}{n m:Nat}(h:a.bk n)(hm:n<=m):a.bk m:=⟨fun t ht=>(h.t t ht).mono hm,vS h.len hm,h.c.mono hm⟩
theorem bAff (w:World):ElB w 29 4 (fun (a:A) n=>a.bk n) ac :=
 (ebS2 (k0:=1) (k1:=3) Tryz.underlying29 (by kernel_rfl) rfl rfl (zZL w) (bRat w)).map (fun a=>⟨a.1,a.2⟩) (fun _=>rfl) (fun _ _ h=>⟨h.1.1,h.1.2,h.2⟩) (fun _ _ _ h g=>g.mono h)
theorem zUI (w:World):ElB w 22 1 (fun (l:List A) n=>(∀ a,a∈l->a.bk n)/\l.length<=n) (fun l=>[alv l]) :=
 (zHS (k:=4) Tryz.underlying22 (by kernel_rfl) (by decide) (bAff w)).map (fun l=>l) (fun _=>rfl) (fun _ _ h=>h) (fun _ _ _ h g=>⟨fun t ht=>(g.1 t ht).mono h,vS g.2 h⟩)
structure Prg.bk (P:Prg) (n:Nat):Prop where
 v:-9223372036854775808<=P.v/\P.v<=9223372036854775807
 rows:∀ a,a∈P.rows->a.bk n
 len:P.rows.length<=n
 ob:P.ob.bk n
theorem bPrg (w:World):ElB w 31 6 (fun (P:Prg) n=>P.bk n) pgc :=
 (ebS3 (k0:=1) (k1:=1) (k2:=4) Tryz.underlying31 (by kernel_rfl) rfl rfl rfl (rInt w).bulk (zUI w) (bAff w)).map (fun a=>⟨a.1,a.2.1,a.2.2⟩) (fun _=>rfl)
  (fun _ _ h=>⟨by simpa[Lit.wf,IntKind.min,IntKind.max,IntKind.signed,IntKind.bits] using h.1,h.2.1.1,h.2.1.2,h.2.2⟩) (fun _ _ _ h g=>⟨g.v,fun a ha=>(g.rows a ha).mono h,vS g.len h,g.ob.mono h⟩)
theorem A.bk.sz {a:A}{n m:Nat}(h:a.bk n)(hn:n<=2^20)(hm:n<=m):a.sz m:=⟨⟨by have:=h.len;omega,fun t ht=>(h.t t ht).mono hm⟩,h.c.mono hm⟩
theorem Prg.bk.sz {P:Prg}{n m:Nat}(h:P.bk n)(hn:n<=2^20)(hm:n<=m):P.sz m:=⟨⟨by have:=h.len;omega,fun a ha=>(h.rows a ha).sz hn hm⟩,h.ob.sz hn hm⟩
theorem zWF {w:World}{cs:Array Value}{pv:List PV}(hf:yV jN pv=true)(h:Cs w cs.toList (x6 pv)):Rep w (InW w) β0 (.agg cs) (.agg pv):=by
 have hl:=h.len;rw[kB] at hl;refine .agg (by simpa using hl) fun j hj=>?_;have:=h.get j (by rw[kB];exact hj);rw[jX] at this;refine .c (xU rfl hf j) ?_;have e:cs.toList.getD j undef=cs.getD j undef:=by simp[yC]
 rw[<-e];exact this.1
theorem zM6 (l:List Rat):enc rc (l.map zJ)=enc cq l:=by unfold enc;rw[List.map_map];rfl
abbrev prg (v:Nat) (fs:List F) (ob:F):Prg:=⟨v,fs.map fA,fA ob⟩
structure PSm (v:Nat) (fs:List F) (ob:F):Prop where
 lv:v<=1280
 sz:(prg v fs ob).sz (2^30)
 ok:(prg v fs ob).valid=true
 rows:∀ f,f∈fs->f.fl 2 12/\f.wf (v:Int)
 obj:ob.fl 2 12/\ob.wf (v:Int)
 len:fs.length<=24
theorem zTT (q:Rat):(cq q).length=3:=rfl
theorem sEvQ {f:F}{l:List Rat}{v:Nat}(hf:f.fl 2 12)(hw:f.wf (v:Int))(hl:lfit (2^23) l)(hv:l.length=v)(hv2:v<=1280):zG 149 [av (fA f),qlv l] (.tup [rv (zJ (f.at (xr l))),.int .i64 (fun _=>0)]):=by
 have:=zZ3 f l (m:=2^23) hf (by rw[hv];exact hw) hl (by decide) (by decide) (by decide) (by decide) (by rw[hv];exact xJ hv2 (by decide));have e:rlv (l.map zJ)=qlv l:=by show PV.sl _=PV.sl _;rw[zM6]
 rw[e] at this;exact this
theorem zKX {f:F}{l:List Rat}{v:Nat}(hf:f.fl 2 12)(hw:f.wf (v:Int))(hl:lfit (2^23) l)(hv:l.length=v):Fits (2^27) (f.at (xr l)):=by have fx:=zWH (f:=f) (l:=l) (m:=2^23) (by rw[hv];exact hw) hl;have h1:=zD7 hf fx f.ts.length;have h2:evS f (xr l) f.ts.length=f.at (xr l):=zOP f _;rw[h2] at h1;exact h1.mono (by have:=hf.len;have:(2+2^23+1)*f.ts.length<=(2+2^23+1)*12:=wW _ this;omega)
theorem zWT {v:Nat}{fs:List F}{ob:F}{x:List Rat}(hP:PSm v fs ob)(hx:lfit (2^23) x)(hv:x.length=v)(h0:∀ f,f∈fs->0<=f.at (xr x)):zG 112 [pgv (prg v fs ob),qlv x] (.bool (fun _=>true)):=by
 have cv:=zT5 _ (hP.sz.mono (by decide));rw[hP.ok] at cv;have hvv:=hP.lv;have hln:=hP.len;have ce:∀ (i:Nat) f,fs[i]?=some f->zG 149 [av (fA f),qlv x] (.tup [rv (zJ (f.at (xr x))),.int .i64 (fun _=>0)]):=fun i f hf=>by have:=hP.rows f (zZ hf);exact sEvQ this.1 this.2 hx hv hvv
 have cs:∀ (i:Nat) f,fs[i]?=some f->zG 31 [rv (zJ (f.at (xr x)))] (.int .i64 (fun _=>xF (f.at (xr x)))):=fun i f hf=>by have:=hP.rows f (zZ hf);have h3:=s35 (zJ (f.at (xr x))) (by have:=(yF (zKX this.1 this.2 hx hv)).n;omega);rw[yY] at h3;exact h3
 have cg:∀ (i:Nat) f,fs[i]?=some f->0<=xF (f.at (xr x)):=fun i f hf=>by have:=h0 f (zZ hf);unfold xF;split;{grind};{split <;> decide}
 refine sF Tryz.f112 ?_;show wp _ ⟨tJ 0 [.agg [.int .i64 (fun _=>(v:Int)),.sl (fun _=>enc ac (fs.map fA)),tsv (fA ob).ts,.bool (fun _=>(fA ob).c.neg),nat (fA ob).c.num,nat (fA ob).c.den],qlv x],_⟩ _;clear hP h0;obtain⟨US,hUS⟩:∃ US,fs.map fA=US:=⟨_,rfl⟩;have hUl:US.length=fs.length:=by rw[<-hUS,y8]
 obtain⟨A0,hA0⟩:∃ A0,fA ob=A0:=⟨_,rfl⟩;have cv':zG 24 [.agg [.int .i64 (fun _=>(v:Int)),.sl (fun _=>enc ac (fs.map fA)),tsv (fA ob).ts,.bool (fun _=>(fA ob).c.neg),nat (fA ob).c.num,nat (fA ob).c.den]] (.bool (fun _=>true)):=cv;clear cv;rw[hUS,hA0] at cv';rw[hUS,hA0];obtain⟨ots,oc⟩:=A0;obtain⟨tru,htru⟩:∃ b,b=true:=⟨_,rfl⟩;rw[<-htru] at cv';cbv;refine cA cv' ?_;cbv;refine xK (fun e1=>?_) (fun e1=>by rw[htru] at e1;cases e1);cbv;refine zD (fun e2=>?_) (fun e2=>?_)
 rotate_left
 {exact absurd (by rw[zK,hv]) e2};cbv;refine zX (σ:=Nat) (fun i=>⟨[(1,qlv x),(2,.ptr 2 0),(5,.int .i64 (fun _=>(i:Int)))],[(2,.box [.int .i64 (fun _=>(v:Int)),alv US,tsv ots,.bool (fun _=>oc.neg),nat oc.num,nat oc.den])]⟩) (fun i=>i<=US.length) (fun i=>US.length-i) 0 (wH _) (wkZ) ?_;intro i h1;cbv;refine zD (fun h5=>?_) (fun h5=>?_)
 ·(have hlt:=j8 h5;obtain⟨f,hf⟩:=zO (show i<fs.length by omega);have hUi:US[i]?=some (fA f):=by rw[<-hUS,vU,hf];rfl);have ce1:=ce i f hf
  have cs1:=cs i f hf;have cg1:=cg i f hf;obtain⟨a,ha⟩:∃ a,fA f=a:=⟨_,rfl⟩;obtain⟨w,hw⟩:∃ w,zJ (f.at (xr x))=w:=⟨_,rfl⟩;obtain⟨sg,hsg⟩:∃ w,xF (f.at (xr x))=w:=⟨_,rfl⟩;rw[ha] at hUi ce1;rw[hw] at ce1 cs1;rw[hsg] at cs1 cg1;cbv;refine xC hUi gU dG ?_;cbv;refine cA ce1 ?_;cbv;refine uF rfl ?_;cbv;refine cA cs1 ?_;cbv;refine cW om ?_;cbv;exact⟨zC om om,i+1,om,om,wkZ⟩
 ·cbv
  (refine rC ?_;cbv)
  exact xQ rfl
theorem zYF {v:Nat}{fs:List F}{ob:F}{x:List Rat}(hP:PSm v fs ob)(hx:lfit (2^23) x)(hv:x.length=v):zG 113 [pgv (prg v fs ob),qlv x] (.tup [rv (zJ (ob.at (xr x))),.int .i64 (fun _=>0)]):=by
 have cv:=zT5 _ (hP.sz.mono (by decide));rw[hP.ok] at cv;have ce:=sEvQ hP.obj.1 hP.obj.2 hx hv hP.lv;refine sF Tryz.f113 ?_;show wp _ ⟨tJ 0 [.agg [.int .i64 (fun _=>(v:Int)),.sl (fun _=>enc ac (fs.map fA)),tsv (fA ob).ts,.bool (fun _=>(fA ob).c.neg),nat (fA ob).c.num,nat (fA ob).c.den],qlv x],_⟩ _;have hvv:=hP.lv;have cv':zG 24 [.agg [.int .i64 (fun _=>(v:Int)),.sl (fun _=>enc ac (fs.map fA)),tsv (fA ob).ts,.bool (fun _=>(fA ob).c.neg),nat (fA ob).c.num,nat (fA ob).c.den]] (.bool (fun _=>true)):=cv;clear cv hP;obtain⟨US,hUS⟩:∃ US,fs.map fA=US:=⟨_,rfl⟩;obtain⟨A0,hA0⟩:∃ A0,fA ob=A0:=⟨_,rfl⟩;obtain⟨w,hw⟩:∃ w,zJ (ob.at (xr x))=w:=⟨_,rfl⟩;rw[hUS,hA0] at cv';rw[hA0,hw] at ce;rw[hUS,hA0,hw];obtain⟨ots,oc⟩:=A0;obtain⟨tru,htru⟩:∃ b,b=true:=⟨_,rfl⟩;rw[<-htru] at cv';cbv;refine cA cv' ?_;cbv;refine z6 (fun e1=>?_) (fun e1=>by rw[htru] at e1;cases e1);cbv;refine zD (fun e2=>?_) (fun e2=>?_)
 rotate_left
 {exact absurd (by rw[zK,hv]) e2};cbv;refine cA ce ?_;cbv
 (refine rC ?_;cbv)
 exact okA
theorem zT4 {v:Nat}{US:List A}{ob:A}{x:List Rat}(hx:lfit (2^30) x)(hv:x.length=v)(hvv:v<=1280):zG 111 [pgv ⟨(v:Int),US,ob⟩,qlv x] (.bool (fun _=>true)):=by
 have cv:∀ (i:Nat) c,x[i]?=some c->zG 62 [rv (zJ c)] (.bool (fun _=>true)):=fun i c hc=>by have:=s129 (zJ c) ((yF (hx c (zZ hc))).mono (by decide));rw[nF] at this;exact this
 obtain⟨ots,oc⟩:=ob;refine sF Tryz.f111 ?_;obtain⟨tru,htru⟩:∃ b,b=true:=⟨_,rfl⟩;rw[<-htru] at cv;cbv;refine zD (fun e2=>?_) (fun e2=>?_)
 rotate_left
 {exact absurd (by rw[zK,hv]) e2};cbv;refine zX (σ:=Nat) (fun i=>⟨[(1,qlv x),(5,.int .i64 (fun _=>(i:Int)))],[]⟩) (fun i=>i<=x.length) (fun i=>x.length-i) 0 (wH _) (wkZ) ?_;intro i h1;cbv;refine zD (fun h5=>?_) (fun h5=>?_)
 ·(have hlt:=j8 h5;obtain⟨c,hc⟩:=zO hlt;have cv1:=cv i c hc;obtain⟨C,hC⟩:∃ C,zJ c=C:=⟨_,rfl⟩;rw[hC] at cv1;have hc':(x.map zJ)[i]?=some C:=by rw[vU,hc,<-hC];rfl);cbv
  rw[<-zM6];refine xC hc' eE zEZ ?_;cbv;refine cA cv1 ?_;cbv;refine z6 (fun e3=>?_) (fun e3=>by rw[htru] at e3;cases e3);cbv;exact⟨zC om om,i+1,om,om,wkZ⟩
 ·cbv
  (refine rC ?_;cbv)
  exact xQ rfl
theorem mV:zJ 0=⟨false,[],[]⟩:=by unfold zJ;simp[limbs_zero]
theorem zNS {q:Rat}(h:0<=q):0<=xF q:=by unfold xF;split;{grind};{split <;> decide}
theorem zR6:fA F.zero=⟨[],⟨false,[],[]⟩⟩:=by rw[zV1]
theorem zWQ {v:Nat}{fs:List F}{ob:A}{ds:List Rat}(hw:∀ f,f∈fs->f.fl 2 12/\f.wf (v:Int))(hln:fs.length<=24)(hd:ds.length=fs.length)(hn:∀ c,c∈ds->0<=c){m:Nat}(hm:m<=2^22)(hml:(m+6)*fs.length+2<=2^26)(hf:lfit m ds):zG 114 [pgv ⟨(v:Int),fs.map fA,ob⟩,qlv ds] (.tup [av (fA (vB fs ds F.zero)),.bool (fun _=>true)]):=by
 have cv:∀ (i:Nat) c,ds[i]?=some c->zG 62 [rv (zJ c)] (.bool (fun _=>true)):=fun i c hc=>by have:=s129 (zJ c) ((yF (hf c (zZ hc))).mono oM);rw[nF] at this;exact this
 have cs:∀ (i:Nat) c,ds[i]?=some c->zG 31 [rv (zJ c)] (.int .i64 (fun _=>xF c))/\0<=xF c:=fun i c hc=>by have h3:=s35 (zJ c) (by have:=(yF (hf c (zZ hc))).n;omega);rw[yY] at h3;exact⟨h3,zNS (hn c (zZ hc))⟩
 have st:∀ (i:Nat) (acc:F) f c,fs[i]?=some f->ds[i]?=some c->acc.fl (1+(m+6)*i) (12*i)->Cn acc.ts ->
   zG 27 [av (fA f),rv (zJ c)] (av (fA (f.scale c)))/\zG 29 [av (fA acc),av (fA (f.scale c))] (av (fA (acc.add (f.scale c))))/\(acc.add (f.scale c)).fl (1+(m+6)*(i+1)) (12*(i+1))/\Cn (acc.add (f.scale c)).ts:=fun i acc f c h1 h2 h3 h4=>by
  have h5:=hw f (zZ h1);have h6:=hf c (zZ h2);have hi:=yO h1;have h7:=h5.1.scale h6;have hi2:(m+6)*(i+1)<=(m+6)*fs.length:=wW _ hi;rw[zBV] at hi2;have h8:Cn (f.scale c).ts:=(Cn.mrg Cn.nil h5.2.cn);exact⟨zN1 h5.1 h6 oM oM oM,yAH h4 h8 h3 h7 oM oM oM oM,(h3.add h7).mono (by rw[zBV];omega) oM,h4.mrg h8⟩
 obtain⟨US,hUS⟩:∃ US,fs.map fA=US:=⟨_,rfl⟩;have hUl:US.length=fs.length:=by rw[<-hUS,y8]
 obtain⟨T,hT⟩:∃ T,fA (vB fs ds F.zero)=T:=⟨_,rfl⟩;rw[hT,hUS];obtain⟨ots,oc⟩:=ob;have h00:∃ acc:F,fA acc=⟨[],⟨false,[],[]⟩⟩/\acc.fl (1+(m+6)*0) (12*0)/\Cn acc.ts/\T=fA (vB (fs.drop 0) (ds.drop 0) acc) :=
  ⟨F.zero,zR6,⟨fun t ht=>absurd ht (by simp[F.zero]),wD oM,zV _⟩,Cn.nil,hT.symm⟩
 refine sF Tryz.f114 ?_;obtain⟨tru,htru⟩:∃ b,b=true:=⟨_,rfl⟩;rw[<-htru] at cv;clear hT hw hn hf;cbv;refine zD (fun e2=>?_) (fun e2=>?_)
 rotate_left
 {exact absurd (by rw[zK,zK];show (ds.length:Int)=(US.length:Int);omega) e2};cbv;refine zX (σ:=Nat×A) (fun s=>⟨[(1,qlv ds),(2,.ptr 2 0),(4,.ptr 4 0),(6,.ptr 6 0),(7,.int .i64 (fun _=>(s.1:Int)))],[(2,.box [.int .i64 (fun _=>(v:Int)),alv US,tsv ots,.bool (fun _=>oc.neg),nat oc.num,nat oc.den]),(4,.box [.nil,.ff,.nil,.nil]),(6,.box [tsv s.2.ts,.bool (fun _=>s.2.c.neg),nat s.2.c.num,nat s.2.c.den])]⟩)
  (fun s=>s.1<=ds.length/\∃ acc:F,fA acc=s.2/\acc.fl (1+(m+6)*s.1) (12*s.1)/\Cn acc.ts/\T=fA (vB (fs.drop s.1) (ds.drop s.1) acc)) (fun s=>ds.length-s.1) (0,⟨[],⟨false,[],[]⟩⟩) ⟨wH _,h00⟩ (.le okZ (by cbv;repeat' first|exact trivial|exact lR|exact xB rfl|exact z5 rfl|apply zN) rfl) ?_
 clear h00;intro s hs;obtain⟨i,a⟩:=s;obtain⟨h1,acc,hacc,g1,g2,g3⟩:=hs;dsimp only at h1 hacc g1 g2 g3;cbv;refine zD (fun h5=>?_) (fun h5=>?_)
 ·(have hlt:=j8 h5;obtain⟨c,hc⟩:=zO hlt;obtain⟨f,hff⟩:=zO (show i<fs.length by omega);have hUi:US[i]?=some (fA f):=by rw[<-hUS,vU,hff];rfl);have cv1:=cv i c hc
  (obtain⟨cs1,cs2⟩:=cs i c hc;obtain⟨k1,k2,k3,k4⟩:=st i acc f c hff hc g1 g2;rw[wK hff,wK hc,vB] at g3;obtain⟨acc2,hacc2⟩:∃ x,acc.add (f.scale c)=x:=⟨_,rfl⟩;rw[hacc2] at k2 k3 k4 g3;have h00:∃ acc:F,fA acc=fA acc2/\acc.fl (1+(m+6)*(i+1)) (12*(i+1))/\Cn acc.ts/\T=fA (vB (fs.drop (i+1)) (ds.drop (i+1)) acc):=⟨acc2,rfl,k3,k4,g3⟩;obtain⟨b,hb⟩:∃ b,fA f=b:=⟨_,rfl⟩;obtain⟨w,hw⟩:∃ w,zJ c=w:=⟨_,rfl⟩;obtain⟨m,hm⟩:∃ w,fA (f.scale c)=w:=⟨_,rfl⟩;obtain⟨n,hn⟩:∃ w,fA acc2=w:=⟨_,rfl⟩;obtain⟨sg,hsg⟩:∃ w,xF c=w:=⟨_,rfl⟩;rw[hb] at hUi k1;rw[hw] at cv1 cs1 k1;rw[hm] at k1 k2;rw[hn] at k2 h00;rw[hacc] at k2;rw[hsg] at cs1 cs2;have hc':(ds.map zJ)[i]?=some w:=by rw[vU,hc,<-hw];rfl);clear g1 g2 g3 k3 k4 hacc hacc2
  cbv;rw[<-zM6];refine xC hc' eE zEZ ?_;cbv;refine cA cv1 ?_;cbv;refine xK (fun e3=>?_) (fun e3=>by rw[htru] at e3;cases e3);cbv;refine xC hc' eE zEZ ?_;cbv;refine cA cs1 ?_;cbv;refine cW om ?_;cbv;refine zT 12 (by cbv) ?_;cbv;refine xC hUi gU dG ?_;cbv;refine xC hc' eE zEZ ?_;cbv;refine dA k1 ?_;cbv;refine dA k2 ?_;cbv;exact⟨zC om om,(i+1,n),⟨om,h00⟩,om,wkZ⟩
 ·(have hi:i=ds.length:=by have:=cV h5;omega);have hTa:T=a:=by rw[g3,<-hacc,hi,vG,hd,vG];unfold vB;rfl
  subst hTa;cbv
  (refine rC ?_;cbv)
  exact okA
theorem zWP {v:Nat}{f:F}{x:List Rat}(hf:f.fl 2 12)(hw:f.wf (v:Int))(hx:lfit (2^23) x)(hv:x.length=v)(hv2:v<=1280):zG 115 [av (fA f),qlv x] (rv (zJ ((dirF f).at (xr x)))):=by
 have ce:=sEvQ (f:=dirF f) (l:=x) (v:=v) ⟨hf.t,wD (by decide),hf.len⟩ ⟨hw.cn,hw.v⟩ hx hv hv2;have e:fA (dirF f)=⟨(fA f).ts,⟨false,[],[]⟩⟩:=by show (⟨tR f.ts,zJ 0⟩:A)=_;rw[mV];rfl
 rw[e] at ce;refine sF Tryz.f115 ?_;obtain⟨a,ha⟩:∃ a,fA f=a:=⟨_,rfl⟩;obtain⟨w,hw⟩:∃ w,zJ ((dirF f).at (xr x))=w:=⟨_,rfl⟩;rw[ha,hw] at ce;rw[ha,hw];obtain⟨ats,ac0⟩:=a;cbv;refine cA ce ?_;cbv
 (refine rC ?_;cbv)
 exact okA
theorem oO (q:Rat)(h:Fits (2^30) q):zG 30 [rv (zJ q),rv (zJ q)] (.int .i64 (fun _=>0)):=by
 have hz:=yF h;have:=s42 (zJ q) (zJ q) (hz.mono (by decide)) (hz.mono (by decide));rw[yY] at this;have e:gJ q q=0:=by unfold gJ;rw[if_neg (Rat.lt_irrefl),if_neg (Rat.lt_irrefl)]
 rw[e] at this;exact this
theorem zZ8 {v:Nat}{fs:List F}{ob:F}{s:SolR}(hP:PSm v fs ob)(h:SolOk v (fs.map (lnS v)) (lnS v ob) s){m:Nat}(hm:m<=2^22)(hml:(m+6)*fs.length+2<=2^26)(hf0:SolFit m s)(e:s.st=1):zG 63 [pgv (prg v fs ob),slv s] (.bool (fun _=>true)):=by
 have hf:SolFit (2^22) s:=hf0.mono' hm;have hw:∀ f,f∈fs->f.wf (v:Int):=fun f hf=>(hP.rows f hf).2;obtain⟨h1,h2,h3,h4,h5,h6,h7⟩:=h.opt e;have hsub:=h.sub hw hP.obj.2 e;rw[y8] at h4;have hpt:lfit (2^23) s.pt:=hf.pt.mono (by decide);have cp:=zT4 (US:=fs.map fA) (ob:=fA ob) (hf.pt.mono (by decide):lfit (2^30) s.pt) h1 hP.lv;have cv:zG 62 [rv (zJ s.val)] (.bool (fun _=>true)):=by have:=s129 (zJ s.val) ((yF hf.val).mono (by decide));rw[nF] at this;exact this
 have cf:=zWT hP hpt h1 fun f hm=>by rw[<-zBN (hw f hm)];exact h2 _ (mO hm)
 have ca:=zYF hP hpt h1;rw[<-zBN hP.obj.2,h3] at ca;have cc:=zWQ (ob:=fA ob) hP.rows hP.len h4 h5 hm hml hf0.du;have hcm:=zTW hP.rows hP.len h4 hml hf0.du;have ccw:=zE7 (ds:=s.du) (acc:=F.zero) hw F.wf.zero;have cb:=zWY hP.obj.2.cn ccw.cn hP.obj.1 hcm (by decide) (by decide) (by decide) (by decide);have eb:fA (ob.sub (vB fs s.du F.zero))=⟨[],zJ s.val⟩:=by show (⟨tR _,zJ _⟩:A)=_;rw[hsub.1,hsub.2];rfl
 have cb':zG 33 [av (fA ob),av (fA (vB fs s.du F.zero))] (av ⟨[],zJ s.val⟩):=by rw[<-eb];exact cb
 have cm:=oO s.val (hf.val.mono (by decide));clear cb eb hsub h2 h3 h5 h6 hcm ccw hpt hf hP h hw;obtain⟨st,val,pt,du,ry,bas,pv⟩:=s;dsimp only at *
 subst h7;obtain⟨CM,hCM⟩:∃ x,fA (vB fs du F.zero)=x:=⟨_,rfl⟩;rw[hCM] at cc cb';refine sF Tryz.f63 ?_;show wp _ ⟨tJ 0 [.agg [.int .i64 (fun _=>(v:Int)),.sl (fun _=>enc ac (fs.map fA)),tsv (fA ob).ts,.bool (fun _=>(fA ob).c.neg),nat (fA ob).c.num,nat (fA ob).c.den],.agg [.int .i64 (fun _=>(st:Int)),.bool (fun _=>(zJ val).neg),nat (zJ val).num,nat (zJ val).den,qlv pt,qlv du,qlv [],ilv bas,.int .i64 (fun _=>(pv:Int))]],_⟩ _;obtain⟨US,hUS⟩:∃ US,fs.map fA=US:=⟨_,rfl⟩;obtain⟨O,hO⟩:∃ a,fA ob=a:=⟨_,rfl⟩;obtain⟨Z,hZ⟩:∃ a,zJ val=a:=⟨_,rfl⟩;obtain⟨tru,htru⟩:∃ b,b=true:=⟨_,rfl⟩;have cf':zG 112 [.agg [.int .i64 (fun _=>(v:Int)),alv (fs.map fA),tsv (fA ob).ts,.bool (fun _=>(fA ob).c.neg),nat (fA ob).c.num,nat (fA ob).c.den],qlv pt] (.bool (fun _=>true)):=cf;have ca':zG 113 [.agg [.int .i64 (fun _=>(v:Int)),alv (fs.map fA),tsv (fA ob).ts,.bool (fun _=>(fA ob).c.neg),nat (fA ob).c.num,nat (fA ob).c.den],qlv pt] (.tup [rv (zJ val),.int .i64 (fun _=>0)]):=ca;clear cf ca;rw[hUS,hO] at cp cc cf' ca';rw[hO] at cb';rw[hZ] at ca' cv cm cb';rw[<-htru] at cp cv cf' cc;rw[hUS,hO,hZ];obtain⟨ots,oc⟩:=O;clear hUS hO hZ hCM;cbv;refine cA cp ?_;cbv;refine xK (fun e=>?_) (fun e=>by rw[htru] at e;cases e);cbv;refine cA cv ?_;cbv;refine xK (fun e=>?_) (fun e=>by rw[htru] at e;cases e);cbv;refine zXD (by decide) ?_;cbv;refine cA cf' ?_;cbv;refine z6 (fun e=>?_) (fun e=>by rw[htru] at e;cases e);cbv;refine cA ca' ?_;cbv;refine cA cc ?_;cbv;refine xK (fun e=>?_) (fun e=>by rw[htru] at e;cases e);cbv;refine uF rfl ?_;cbv;refine cA cm ?_;cbv;refine nR rfl ?_;cbv;refine cA cb' ?_;cbv;refine uF rfl ?_;cbv;refine cA cm ?_;cbv
 (refine rC ?_;cbv)
 exact yX rfl
theorem zZ9 {v:Nat}{fs:List F}{ob:F}{s:SolR}(hP:PSm v fs ob)(h:SolOk v (fs.map (lnS v)) (lnS v ob) s){m:Nat}(hm:m<=2^22)(hml:(m+6)*fs.length+2<=2^26)(hf0:SolFit m s)(e:s.st=2):zG 64 [pgv (prg v fs ob),qlv s.du] (.bool (fun _=>true)):=by
 have hf:SolFit (2^22) s:=hf0.mono' hm;have hw:∀ f,f∈fs->f.wf (v:Int):=fun f hf=>(hP.rows f hf).2;obtain⟨h1,h2,h3,h4,h5,h6⟩:=h.inf e;have hsub:=h.neg hw e;rw[y8] at h4;have cc:=zWQ (ob:=fA ob) hP.rows hP.len h4 h5 hm hml hf0.du;have hcm:=zTW hP.rows hP.len h4 hml hf0.du;obtain⟨k,hk⟩:∃ k,(vB fs s.du F.zero).c=k:=⟨_,rfl⟩;rw[hk] at hsub;have eb:fA (vB fs s.du F.zero)=⟨[],zJ k⟩:=by show (⟨tR _,zJ _⟩:A)=_;rw[hsub.1,hk];rfl
 have cs:zG 31 [rv (zJ k)] (.int .i64 (fun _=>xF k)):=by have h3:=s35 (zJ k) (by have:=(yF (hk ▸ hcm.c)).n;omega);rw[yY] at h3;exact h3
 have hsg:=zNR.2 hsub.2;rw[eb] at cc;obtain⟨tru,htru⟩:∃ b,b=true:=⟨_,rfl⟩;rw[<-htru] at cc;refine sF Tryz.f64 ?_;show wp _ ⟨tJ 0 [.agg [.int .i64 (fun _=>(v:Int)),.sl (fun _=>enc ac (fs.map fA)),tsv (fA ob).ts,.bool (fun _=>(fA ob).c.neg),nat (fA ob).c.num,nat (fA ob).c.den],qlv s.du],_⟩ _;obtain⟨US,hUS⟩:∃ US,fs.map fA=US:=⟨_,rfl⟩;obtain⟨O,hO⟩:∃ a,fA ob=a:=⟨_,rfl⟩;obtain⟨Z,hZ⟩:∃ a,zJ k=a:=⟨_,rfl⟩;obtain⟨sg,hsg'⟩:∃ a,xF k=a:=⟨_,rfl⟩;obtain⟨D,hD⟩:∃ a,s.du=a:=⟨_,rfl⟩;rw[hUS,hO,hZ,hD] at cc;rw[hZ,hsg'] at cs;rw[hsg'] at hsg;rw[hUS,hO,hD];clear hUS hO hZ hD hk eb hsub hcm h4 h5 h6 h1 h2 h3 hf h hP;obtain⟨ots,oc⟩:=O;cbv;refine cA cc ?_;cbv;refine xK (fun e=>?_) (fun e=>by rw[htru] at e;cases e);cbv;refine uF rfl ?_;cbv;refine cA cs ?_;cbv
 (refine rC ?_;cbv)
 exact yX (decide_eq_true hsg)
theorem zZ7 {v:Nat}{fs:List F}{ob:F}{s:SolR}(hP:PSm v fs ob)(h:SolOk v (fs.map (lnS v)) (lnS v ob) s){m:Nat}(hm:m<=2^22)(hml:(m+6)*fs.length+2<=2^26)(hf0:SolFit m s)(e:s.st=3):zG 65 [pgv (prg v fs ob),qlv s.pt,qlv s.ry] (.bool (fun _=>true)):=by
 have hf:SolFit (2^22) s:=hf0.mono' hm;have hw:∀ f,f∈fs->f.wf (v:Int):=fun f hf=>(hP.rows f hf).2;obtain⟨h1,h2,h3,h4,h5,h6,h7⟩:=h.unb e;have hpt:lfit (2^23) s.pt:=hf.pt.mono (by decide);have hry:lfit (2^23) s.ry:=hf.ry.mono (by decide);have cp:=zT4 (US:=fs.map fA) (ob:=fA ob) (hf.pt.mono (by decide):lfit (2^30) s.pt) h3 hP.lv;have cr:=zT4 (US:=fs.map fA) (ob:=fA ob) (hf.ry.mono (by decide):lfit (2^30) s.ry) h4 hP.lv;have cf:=zWT hP hpt h3 fun f hm=>by rw[<-zBN (hw f hm)];exact h5 _ (mO hm)
 have hdf:∀ f:F,f.fl 2 12->f.wf (v:Int)->Fits (2^27) ((dirF f).at (xr s.ry)):=fun f h8 h9=>zKX (f:=dirF f) (l:=s.ry) (v:=v) ⟨h8.t,wD (by decide),h8.len⟩ ⟨h9.cn,h9.v⟩ hry h4;have cs:∀ q:Rat,Fits (2^27) q->zG 31 [rv (zJ q)] (.int .i64 (fun _=>xF q)):=fun q hq=>by have h3:=s35 (zJ q) (by have:=(yF hq).n;omega);rw[yY] at h3;exact h3
 have cd:∀ (i:Nat) f,fs[i]?=some f->∃ q:Rat,zG 115 [av (fA f),qlv s.ry] (rv (zJ q))/\zG 31 [rv (zJ q)] (.int .i64 (fun _=>xF q))/\0<=xF q:=fun i f hi=>by have hm:=zZ hi;have h8:=hP.rows f hm;refine⟨_,zWP h8.1 h8.2 hry h4 hP.lv,cs _ (hdf f h8.1 h8.2),zNS ?_⟩;rw[zTR h8.2];exact h6 _ (mO hm)
 have co:=zWP hP.obj.1 hP.obj.2 hry h4 hP.lv;have cos:=cs _ (hdf ob hP.obj.1 hP.obj.2);have hon:xF ((dirF ob).at (xr s.ry))<0:=zNR.2 (by rw[zTR hP.obj.2];exact h7);obtain⟨tru,htru⟩:∃ b,b=true:=⟨_,rfl⟩;have cf':zG 112 [.agg [.int .i64 (fun _=>(v:Int)),alv (fs.map fA),tsv (fA ob).ts,.bool (fun _=>(fA ob).c.neg),nat (fA ob).c.num,nat (fA ob).c.den],qlv s.pt] (.bool (fun _=>true)):=cf;rw[<-htru] at cp cr cf';refine sF Tryz.f65 ?_;show wp _ ⟨tJ 0 [.agg [.int .i64 (fun _=>(v:Int)),.sl (fun _=>enc ac (fs.map fA)),tsv (fA ob).ts,.bool (fun _=>(fA ob).c.neg),nat (fA ob).c.num,nat (fA ob).c.den],qlv s.pt,qlv s.ry],_⟩ _;obtain⟨US,hUS⟩:∃ US,fs.map fA=US:=⟨_,rfl⟩;have hUl:US.length=fs.length:=by rw[<-hUS,y8]
 have hUb:US.length<=24:=by rw[hUl];exact hP.len
 obtain⟨O,hO⟩:∃ a,fA ob=a:=⟨_,rfl⟩;obtain⟨Q,hQ⟩:∃ a,(dirF ob).at (xr s.ry)=a:=⟨_,rfl⟩;rw[hQ] at co cos hon;obtain⟨Z,hZ⟩:∃ a,zJ Q=a:=⟨_,rfl⟩;obtain⟨sg,hsg'⟩:∃ a,xF Q=a:=⟨_,rfl⟩;obtain⟨D,hD⟩:∃ a,s.pt=a:=⟨_,rfl⟩;obtain⟨E,hE⟩:∃ a,s.ry=a:=⟨_,rfl⟩;rw[hUS,hO,hD] at cp cf';rw[hUS,hO,hE] at cr;rw[hO,hE,hZ] at co;rw[hZ,hsg'] at cos;rw[hsg'] at hon;rw[hE] at cd;rw[hUS,hO,hD,hE];clear hO hZ hD hE h4 h5 h6 h1 h2 h3 h7 hf h hP hry hpt hdf cs hw cf;obtain⟨ots,oc⟩:=O;have cd':∀ (i:Nat),i<US.length->∃ (a:A) (q:R) (n:Int),US[i]?=some a/\zG 115 [av a,qlv E] (rv q)/\zG 31 [rv q] (.int .i64 (fun _=>n))/\0<=n:=fun i hi=>by obtain⟨f,hf⟩:=zO (show i<fs.length by omega);obtain⟨q,q1,q2,q3⟩:=cd i f hf;exact⟨fA f,zJ q,xF q,by rw[<-hUS,vU,hf];rfl,q1,q2,q3⟩
 clear cd hUS hUl;cbv;refine cA cp ?_;cbv;refine xK (fun e=>?_) (fun e=>by rw[htru] at e;cases e);cbv;refine cA cr ?_;cbv;refine xK (fun e=>?_) (fun e=>by rw[htru] at e;cases e);cbv;refine cA cf' ?_;cbv;refine z6 (fun e=>?_) (fun e=>by rw[htru] at e;cases e);cbv;refine zX (σ:=Nat) (fun i=>⟨[(2,qlv E),(3,.ptr 3 0),(7,.int .i64 (fun _=>(i:Int)))],[(3,.box [.int .i64 (fun _=>(v:Int)),alv US,tsv ots,.bool (fun _=>oc.neg),nat oc.num,nat oc.den])]⟩) (fun i=>i<=US.length) (fun i=>US.length-i) 0 (wH _) (wkZ) ?_;intro i h1;cbv;refine zD (fun h5=>?_) (fun h5=>?_);{have hlt:=j8 h5;obtain⟨a,q,n,k1,k2,k3,k4⟩:=cd' i hlt;cbv;refine xC k1 gU dG ?_;cbv;refine cA k2 ?_;cbv;refine cA k3 ?_;cbv;refine cW om ?_;cbv;exact⟨zC om om,i+1,om,om,wkZ⟩}
 ·cbv;refine cA co ?_;cbv;refine cA cos ?_;cbv
  (refine rC ?_;cbv)
  exact yX (decide_eq_true hon)
theorem zYC {v:Nat}{fs:List F}{ob:F}{s:SolR}(hP:PSm v fs ob)(h:SolOk v (fs.map (lnS v)) (lnS v ob) s){m:Nat}(hm:m<=2^22)(hml:(m+6)*fs.length+2<=2^26)(hf0:SolFit m s):zG 23 [pgv (prg v fs ob),slv s] (.bool (fun _=>true)):=by
 have hf:SolFit (2^22) s:=hf0.mono' hm;have cv:zG 62 [rv (zJ s.val)] (.bool (fun _=>true)):=by have:=s129 (zJ s.val) ((yF hf.val).mono (by decide));rw[nF] at this;exact this
 have cs:zG 31 [rv (zJ s.val)] (.int .i64 (fun _=>xF s.val)):=by have h3:=s35 (zJ s.val) (by have:=(yF hf.val).n;omega);rw[yY] at h3;exact h3
 have c1:=fun e=>zZ8 hP h hm hml hf0 e;have c2:=fun e=>zZ9 hP h hm hml hf0 e;have c3:=fun e=>zZ7 hP h hm hml hf0 e;have hO:=h.one;have z2:s.st=2->xF s.val=0/\s.pt=[]/\s.ry=[]:=fun e=>⟨by rw[(h.inf e).2.2.1];rfl,(h.inf e).1,(h.inf e).2.1⟩;have z3:s.st=3->xF s.val=0/\s.du=[]:=fun e=>⟨by rw[(h.unb e).2.1];rfl,(h.unb e).1⟩;clear h hf hf0 hm hml hP;refine sF Tryz.f23 ?_;show wp _ ⟨tJ 0 [.agg [.int .i64 (fun _=>(v:Int)),.sl (fun _=>enc ac (fs.map fA)),tsv (fA ob).ts,.bool (fun _=>(fA ob).c.neg),nat (fA ob).c.num,nat (fA ob).c.den],slv s],_⟩ _;have c1':s.st=1->zG 63 [.agg [.int .i64 (fun _=>(v:Int)),alv (fs.map fA),tsv (fA ob).ts,.bool (fun _=>(fA ob).c.neg),nat (fA ob).c.num,nat (fA ob).c.den],slv s] (.bool (fun _=>true)):=c1;have c2':s.st=2->zG 64 [.agg [.int .i64 (fun _=>(v:Int)),alv (fs.map fA),tsv (fA ob).ts,.bool (fun _=>(fA ob).c.neg),nat (fA ob).c.num,nat (fA ob).c.den],qlv s.du] (.bool (fun _=>true)):=c2;have c3':s.st=3->zG 65 [.agg [.int .i64 (fun _=>(v:Int)),alv (fs.map fA),tsv (fA ob).ts,.bool (fun _=>(fA ob).c.neg),nat (fA ob).c.num,nat (fA ob).c.den],qlv s.pt,qlv s.ry] (.bool (fun _=>true)):=c3;clear c1 c2 c3;obtain⟨US,hUS⟩:∃ US,fs.map fA=US:=⟨_,rfl⟩;obtain⟨O,hO'⟩:∃ a,fA ob=a:=⟨_,rfl⟩;obtain⟨st,val,pt,du,ry,bas,pv⟩:=s;dsimp only at *
 rw[hUS,hO'] at c1' c2' c3';rw[hUS,hO'];clear hUS hO';obtain⟨Z,hZ⟩:∃ a,zJ val=a:=⟨_,rfl⟩;obtain⟨sg,hsg⟩:∃ a,xF val=a:=⟨_,rfl⟩;obtain⟨tru,htru⟩:∃ b,b=true:=⟨_,rfl⟩;unfold slv at c1';dsimp only at c1';rw[hZ,<-htru] at c1';rw[<-htru] at c2' c3';rw[hZ,<-htru] at cv;rw[hZ,hsg] at cs;rw[hsg] at z2 z3;unfold slv;dsimp only;rw[hZ];obtain⟨ots,oc⟩:=O;clear hZ hsg;rcases hO with e|e|e
 ·have k1:=c1' e;subst e;clear c1' c2' c3' z2 z3;cbv;refine cA cv ?_;cbv;refine xK (fun e=>?_) (fun e=>by rw[htru] at e;cases e);cbv;refine cA cs ?_;cbv;refine nR rfl ?_;cbv;refine cA k1 ?_;cbv
  (refine rC ?_;cbv)
  exact yX htru
 ·have k1:=c2' e;obtain⟨z0,z1,z4⟩:=z2 e;subst e z0 z1 z4;clear c1' c2' c3' z2 z3;cbv;refine cA cv ?_;cbv;refine xK (fun e=>?_) (fun e=>by rw[htru] at e;cases e);cbv;refine cA cs ?_;cbv;refine cW (by decide) ?_;cbv;refine nR rfl ?_;cbv;refine uF rfl ?_;cbv;refine uF rfl ?_;cbv;refine uF rfl ?_;cbv;refine cA k1 ?_;cbv
  (refine rC ?_;cbv)
  exact yX htru
 ·have k1:=c3' e;obtain⟨z0,z1⟩:=z3 e;subst e z0 z1;clear c1' c2' c3' z2 z3;cbv;refine cA cv ?_;cbv;refine xK (fun e=>?_) (fun e=>by rw[htru] at e;cases e);cbv;refine cA cs ?_;cbv;refine cW (by decide) ?_;cbv;refine cW (by decide) ?_;cbv;refine nR rfl ?_;cbv;refine uF rfl ?_;cbv;refine uF rfl ?_;cbv;refine cA k1 ?_;cbv
  (refine rC ?_;cbv)
  exact yX htru
theorem zE0 {v:Int}{q:Rat}{r:List (Int×Rat)}{k:Nat}(hq:Fits k q)(hr:∀ t,t∈r->Fits k t.2):∀ t,t∈pc v q r->Fits k t.2:=fun t ht=>by unfold pc at ht;split at ht;{exact hr t ht};{rcases z9.1 ht with rfl|ht;{exact hq};{exact hr t ht}}
theorem zB4 {v:Int}{q:Rat}{k m:Nat}(hq:Fits k q):∀ {d:Bool} {l:List (Int×Rat)},(∀ t,t∈l->Fits m t.2)->∀ t,t∈xR v q d l->Fits (m+k+1) t.2
 |d,[],_,t,ht=>by unfold xR at ht;split at ht;{simp at ht};{exact zE0 (hq.mono oM) (fun u hu=>absurd hu (by simp)) t ht}| d,u::r,h,t,ht=>by have h1:=h u xD;have h2:∀ d t,t∈xR v q d r->Fits (m+k+1) t.2:=fun d=>zB4 hq (fun x hx=>h x (xI _ hx));unfold xR at ht;split at ht;{exact zE0 ((gG h1 hq).mono oM) (h2 true) t ht};{split at ht;{exact zE0 (hq.mono oM) (zE0 (h1.mono oM) (h2 true)) t ht};{exact zE0 (h1.mono oM) (h2 d) t ht}}
theorem zZ2 (ts:List (Int×Rat))(c:Rat)(hv:∀ t,t∈ts->0<=t.1)(hf:∀ t,t∈ts->Fits (2^20) t.2)(hc:Fits (2^20) c)(hp:∀ i,Tfit (2^30) (plusAll [] (ts.take i)))(hl:ts.length<2^30):zG 128 [tsv (tR ts),rv (zJ c)] (.tup [av (fA ⟨plusAll [] ts,c⟩),.int .i64 (fun _=>0)]):=by
 have cc:=s47 (zJ c) ((yF hc).mono (by decide));rw[yY] at cc;have cp:∀ (i:Nat) t,ts[i]?=some t->zG 72 [av ⟨tR (plusAll [] (ts.take i)),zJ c⟩,.int .i64 (fun _=>t.1),rv (zJ t.2)] (av ⟨tR (plusAll [] (ts.take (i+1))),zJ c⟩):=fun i t ht=>by
  (have:=zWW (plusAll [] (ts.take i)) (zJ c) t.1 (zJ t.2) (hp i) ((yF (hf t (zZ ht))).mono (by decide));rw[yY] at this;have e:xR t.1 t.2 false (plusAll [] (ts.take i))=plusAll [] (ts.take (i+1)):=by rw[rA,ht];show _=plusAll [] (ts.take i++[t]);rw[eF]);rw[e] at this;exact this
 have hz:tR (plusAll [] (ts.take 0))=[]:=rfl;have hlen:=uZ ts;have hT:ts.take ts.length=ts:=s6;show zG _ _ (.tup [.agg [tsv (tR (plusAll [] ts)),.bool (fun _=>(zJ c).neg),nat (zJ c).num,nat (zJ c).den],_]);obtain⟨Z,hZ⟩:∃ Z,zJ c=Z:=⟨_,rfl⟩;obtain⟨T,hTT⟩:∃ T:Nat->List (Int×R),∀ i,tR (plusAll [] (ts.take i))=T i:=⟨_,fun _=>rfl⟩;have hz':T 0=[]:=by rw[<-hTT];rfl
 have hT':tR (plusAll [] ts)=T ts.length:=by rw[<-hTT,hT]
 simp only[hTT,hZ] at cp;rw[hZ] at cc;rw[hT',hZ];clear hp hTT hT hT' hZ hc hz;have hgi:∀ (i:Nat) t,ts[i]?=some t->(tR ts)[i]?=some (t.1,zJ t.2):=fun i t ht=>by unfold tR;rw[vU,ht];rfl
 have hv':∀ (i:Nat) t,ts[i]?=some t->0<=t.1:=fun i t ht=>hv t (zZ ht);clear hv hf;obtain⟨TS,hTS⟩:∃ TS,tR ts=TS:=⟨_,rfl⟩;rw[hTS] at hlen hgi;rw[hTS];refine sF Tryz.f128 ?_;cbv;refine cA cc ?_;cbv;refine zX (σ:=Nat×List (Int×R)) (fun s=>⟨[(0,tsv TS),(4,.ptr 4 0),(6,.ptr 6 0),(7,.int .i64 (fun _=>(s.1:Int)))],[(4,.box [.nil,.ff,.nil,.nil]),(6,.box [tsv s.2,.bool (fun _=>Z.neg),nat Z.num,nat Z.den])]⟩)
  (fun s=>s.1<=ts.length/\s.2=T s.1) (fun s=>ts.length-s.1) (0,[]) ⟨wH _,hz'.symm⟩ (wkZ) ?_
 intro s hs;obtain⟨i,W⟩:=s;obtain⟨h1,h2⟩:=hs;dsimp only at h1 h2;cbv;refine zD (fun h5=>?_) (fun h5=>?_)
 ·(have hlt:i<ts.length:=by have:=j8 h5;omega);obtain⟨t,ht⟩:=zO hlt
  have hg:=hgi i t ht;have hv1:=hv' i t ht;have cp1:=cp i t ht;obtain⟨V,hV⟩:∃ V,T (i+1)=V:=⟨_,rfl⟩;rw[<-h2,hV] at cp1;obtain⟨q,hq⟩:∃ q,zJ t.2=q:=⟨_,rfl⟩;rw[hq] at hg cp1;obtain⟨y,c0⟩:=t;dsimp only at hg hv1 cp1;cbv;refine xC hg kG jE ?_;cbv;refine cW om ?_;cbv;refine zT 12 (by cbv) ?_;cbv;refine xC hg kG jE ?_;cbv;refine xC hg kG jE ?_;cbv;refine dA cp1 ?_;cbv;exact⟨zC om om,(i+1,V),⟨om,hV.symm⟩,om,wkZ⟩
 ·(have hi:i=ts.length:=by have:=cV h5 oM;omega);subst hi
  rw[<-h2];cbv
  (refine rC ?_;cbv)
  exact okA
theorem zYH {TS:List (Int×R)}{Z:R}{a:A}(cm:zG 128 [tsv TS,rv Z] (.tup [av a,.int .i64 (fun _=>0)])):zG 84 [tsv TS,rv Z] (av a):=by
 refine sF Tryz.f84 ?_;obtain⟨ats,ac0⟩:=a;cbv;refine cA cm ?_;cbv
 (refine rC ?_;cbv)
 exact okA
def frm (c0 c1 c:Int):F:=⟨plusAll [] [(0,(c0:Rat)),(1,(c1:Rat))],(c:Rat)⟩
theorem pA {z:Int}(h:z.natAbs<=8):Fits 1 (z:Rat):=aL (xJ h (by decide)) (zV 1)
theorem zHO {m:Nat}:∀ {g l:List (Int×Rat)},(∀ t,t∈g->Fits 1 t.2)->(∀ t,t∈l->Fits m t.2)->∀ t,t∈plusAll l g->Fits (m+2*g.length) t.2
 |[],l,_,h,t,ht=>h t ht| u::g,l,hg,h,t,ht=>by have e:plusAll l (u::g)=plusAll (xR u.1 u.2 false l) g:=rfl;rw[e] at ht;have:=zHO (m:=m+2) (g:=g) (l:=xR u.1 u.2 false l) (fun x hx=>hg x (xI _ hx)) (zB4 (hg u xD) h) t ht;exact this.mono (by rw[x7];omega)
theorem zGD {c0 c1:Int}(h0:c0.natAbs<=8)(h1:c1.natAbs<=8):∀ t,t∈[((0:Int),(c0:Rat)),(1,(c1:Rat))]->0<=t.1/\Fits 1 t.2:=fun t ht=>by rcases z9.1 ht with rfl|ht;{exact⟨Int.le_refl 0,pA h0⟩};{rcases z9.1 ht with rfl|ht;{exact⟨show (0:Int)<=1 by decide,pA h1⟩};{simp at ht}}
theorem zVF {c0 c1 c:Int}(h0:c0.natAbs<=8)(h1:c1.natAbs<=8)(h2:c.natAbs<=8):zG 84 [tsv [(0,zJ (c0:Rat)),(1,zJ (c1:Rat))],rv (zJ (c:Rat))] (av (fA (frm c0 c1 c))):=by have ht:=zGD h0 h1;refine zYH (zZ2 [(0,(c0:Rat)),(1,(c1:Rat))] c (fun t h=>(ht t h).1) (fun t h=>(ht t h).2.mono (by decide)) ((pA h2).mono (by decide)) (fun i=>⟨?_,fun t h=>?_⟩) (show 2<2^30 by decide));{refine xJ (sD _ _) ?_;rw[y4];have:([]:List (Int×Rat)).length=0:=rfl;have:([((0:Int),(c0:Rat)),(1,(c1:Rat))]:List (Int×Rat)).length=2:=rfl;omega};{refine (zHO (m:=1) (g:=[((0:Int),(c0:Rat)),(1,(c1:Rat))].take i) (l:=[]) (fun t h=>(ht t (zEU h)).2) (fun t h=>absurd h (by simp)) t h).mono ?_;rw[y4];have:([((0:Int),(c0:Rat)),(1,(c1:Rat))]:List (Int×Rat)).length=2:=rfl;omega}
theorem zX1:ty 22=.sli 4 80 [.nil,.ff,.nil,.nil]:=by cbv
end Go.Proofs.YtfainocfaddbdaaGreat
