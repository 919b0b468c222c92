/- A part of the proof: BrE, SzB, SzC, SzD. -/
import Derived.Test.YtfainocfaddbdaaGreatZ27
import Derived.Test.YtfainocfaddbdaaGreatZ38
import Derived.Test.YtfainocfaddbdaaGreatZ39
set_option linter.all false
namespace Go.Proofs.YtfainocfaddbdaaGreat
open Go
set_option maxRecDepth 100000
set_option maxHeartbeats 4000000
theorem zKJ {H:Type}(d:DataW H):1<=Rows.uptoBulk d:=by
 cases d with
 |lit l=>cases l <;> simp[Rows.uptoBulk]
 |_=>simp[Rows.uptoBulk]
theorem mY {H:Type}{d:DataW H}:∀ {l:List (DataW H)},d∈l->Rows.uptoBulk d<=Rows.uptoBulkAll l
 |[],h=>absurd h (by simp)| x::r,h=>by simp only[Rows.uptoBulkAll];rcases List.mem_cons.1 h with e|e;{subst e;omega};{have:=mY e;omega}
theorem zEI {H:Type}:∀ (l:List (DataW H)),l.length<=Rows.uptoBulkAll l
 |[]=>Nat.zero_le _| x::r=>by have:=zKJ x;have:=zEI r;simp only[Rows.uptoBulkAll,List.length_cons];omega
structure ElB (w:World) (t:TypeId) (k:Nat) {α:Type} (G:α->Nat->Prop) (p:α->List PV):Prop where
 sz:Tryz.prog.cellsOf t=k
 up:∀ a n m,n<=m->G a n->G a m
 rd:∀ {H:Type} {enc:TypeId×Value->H} {sp:Nat->Bool} {n:Nat} {cs:List Value} {x:DataW H×List MemPlace},DataW.trod enc Tryz.prog w 0 sp true n t cs=some x->∃ a,G a (Rows.uptoBulk x.1)/\Cs w cs (x4 (p a))
theorem ElB.map {w t k}{α β:Type}{G:α->Nat->Prop}{p:α->List PV}{G':β->Nat->Prop}{p':β->List PV}(h:ElB w t k G p)(f:α->β)(hp:∀ a,x4 (p' (f a))=x4 (p a))(hG:∀ a n,G a n->G' (f a) n)(hu:∀ a n m,n<=m->G' a n->G' a m):ElB w t k G' p' :=
 ⟨h.sz,hu,fun hx=>by obtain⟨a,h1,h2⟩:=h.rd hx;exact⟨f a,hG a _ h1,by rw[hp a];exact h2⟩⟩
theorem ElR.bulk {w t k}{α:Type}{G:α->Prop}{p:α->List PV}(h:ElR w t k G p):ElB w t k (fun a _=>G a) p :=
 ⟨h.sz,fun _ _ _ _ h=>h,fun hx=>h.rd hx⟩
theorem zNN {w t e k}{α:Type}{G:α->Nat->Prop}{p:α->List PV}(ht:Tryz.prog.underlying t=some (.slice e))(hs:Tryz.prog.cellsOf t=1)(hk:0<k)(he:ElB w e k G p):ElB w t 1 (fun (l:List α) n=>(∀ a,a∈l->G a n)/\l.length<=n) (fun l=>[.sl (fun _=>enc p l)]) :=
 ⟨hs,fun l n m h g=>⟨fun a ha=>he.up a n m h (g.1 a ha),Nat.le_trans g.2 h⟩,fun {H enc' sp n cs x} hx=>by
  (rcases Go.Deep.open_slice ht hx with⟨rfl,_⟩|⟨a,len,cap,m,n',D,Pl,rfl,hb,hl,hm,hmm,hxe,hi⟩;{exact⟨[],⟨fun _ h=>absurd h (by simp),Nat.zero_le _⟩,⟨.sl0 _ _,rfl⟩,trivial⟩};have hbulk:Rows.uptoBulkAll ((List.range len).map D)<=Rows.uptoBulk x.1:=by rw[hxe];simp only[Rows.uptoBulk];omega);have hbl:len<=Rows.uptoBulk x.1:=by have:=zEI ((List.range len).map D);rw[List.length_map,List.length_range] at this;omega
  (have hbp:∀ i,i<len->Rows.uptoBulk (D i)<=Rows.uptoBulk x.1:=fun i hi=>Nat.le_trans (mY (List.mem_map_of_mem (List.mem_range.2 hi))) hbulk;have hlm:len<=m:=by rw[hmm];split <;> omega);rcases Nat.eq_zero_or_pos len with h0|h0
  {subst h0;exact⟨[],⟨fun _ h=>absurd h (by simp),Nat.zero_le _⟩,⟨.sl0 _ _,rfl⟩,trivial⟩};rw[he.sz] at hi;have key:∀ i,i<len->∃ y:List Value×α,w.cells? 0 (a.add (i*k)) k=some y.1/\G y.2 (Rows.uptoBulk x.1)/\Cs w y.1 (x4 (p y.2)):=fun i hil=>by obtain⟨cs',h1,h2⟩:=hi i (by omega);obtain⟨y,g1,g2⟩:=he.rd h2;exact⟨(cs',y),h1,he.up _ _ _ (hbp i hil) g1,g2⟩
  haveI:Inhabited (List Value×α):=⟨Classical.choose (key 0 h0)⟩
  obtain⟨Y,hY⟩:=Go.Deep.choose_lt key;have hcell:∀ i j,i<len->j<k->w.cell? (a.add (i*k+j))=some ((Y i).1.getD j undef):=fun i j hi' hj=>by
   (obtain⟨h1,_,_⟩:=hY i hi';obtain⟨_,h2,h3⟩:=World.cells?_some h1;have:=h3 j hj;rw[Go.Deep.add_add] at this;rw[this,List.getD_eq_getElem?_getD];have:j<(Y i).1.length:=by omega);simp[this]
  obtain⟨b,o,sp'⟩:=a;have hsp:sp'=none:=by
   have:=hcell 0 0 h0 hk;unfold World.cell? at this;split at this
   ·cases sp' with
    |none=>rfl| some s=>simp[Addr.add] at this
   {cases this}
  subst hsp;have hS:b<w.heap.size:=World.cells?_block (a:=⟨b,o,none⟩) (by have:=(hY 0 h0).1;rw[Nat.zero_mul] at this;exact this) hk
  (have hlen:((List.range len).map fun i=>(Y i).2).length=len:=by simp);have hel:∀ i,i<len->(enc p ((List.range len).map fun i=>(Y i).2)).getD i []=x4 (p (Y i).2):=fun i hi'=>by simp[Go.Proofs.YtfainocfaddbdaaGreat.enc,hi']
  refine⟨(List.range len).map fun i=>(Y i).2,⟨fun z hz=>?_,by rw[hlen];exact hbl⟩,⟨?_,rfl⟩,trivial⟩;{obtain⟨i,hi',rfl⟩:=List.mem_map.1 hz;exact (hY i (List.mem_range.1 hi')).2.1}
  (have hel2:(enc p ((List.range len).map fun i=>(Y i).2)).length=len:=by rw[zN,hlen]);have hk':∀ i,i<len->(x4 (p (Y i).2)).length=k:=fun i hi'=>by obtain⟨h1,_,h3⟩:=hY i hi';obtain⟨_,h2,_⟩:=World.cells?_some h1;rw[<-h3.len];exact h2
  have:=RepD.sl (w:=w) (S:=InW w) (b:=b) (o:=o) (cap:=cap) (s:=k) (els:=enc p ((List.range len).map fun i=>(Y i).2)) (fun i j=>(Y i).1.getD j undef)
   (fun h=>by rw[h] at hel2;simp at hel2;omega) (by rw[hel2];exact hl) (fun _ _ _ _=>hS)
   (fun e' he'=>by obtain⟨z,hz,rfl⟩:=List.mem_map.1 he';obtain⟨i,hi',rfl⟩:=List.mem_map.1 hz;exact hk' i (List.mem_range.1 hi'))
   (fun i j hi' hj=>by rw[hel2] at hi';have:=hcell i j hi' hj;rw[zQD] at this;rw[Nat.add_assoc];exact this)
   (fun i j hi' hj=>by rw[hel2] at hi';exact ((hY i hi').2.2.get j (by rw[hk' i hi'];exact hj)).2)
   (fun i j hi' hj=>by rw[hel2] at hi';rw[hel i hi'];exact ((hY i hi').2.2.get j (by rw[hk' i hi'];exact hj)).1)
  rw[hel2] at this;exact this⟩
theorem bU8 (w:World):ElB w 5 1 (fun (b:UInt8) _=>True) (fun b=>[.int .u8 (fun _=>(b.toNat:Int))]) :=
 (zQ2 (k:=.u8) Tryz.underlying5 (by kernel_rfl)).map (fun n=>UInt8.ofNat n.toNat) (fun n h=>by
  (have:0<=n/\n<=255:=by simpa[Lit.wf,IntKind.min,IntKind.max,IntKind.signed,IntKind.bits] using h);have e:((UInt8.ofNat n.toNat).toNat:Int)=n:=by rw[UInt8.toNat_ofNat_of_lt' (by show n.toNat<256;omega)];omega
  show [D.int .u8 _]=[D.int .u8 _];rw[e]) (fun _ _=>trivial) |>.bulk
abbrev u8c' (b:UInt8):List PV:=[.int .u8 (fun _=>(b.toNat:Int))]
abbrev u8l (l:List UInt8):PV:=.sl (fun _=>enc u8c' l)
theorem zLP (w:World):ElB w 47 1 (fun (l:List UInt8) n=>l.length<=n) (fun l=>[u8l l]) :=
 (zNN (k:=1) Tryz.underlying47 (by kernel_rfl) (by decide) (bU8 w)).map (fun l=>l) (fun _=>rfl) (fun _ _ h=>h.2) (fun _ _ _ h g=>Nat.le_trans g h)
theorem zF5 (l:List Rat):enc rc (l.map zL)=enc cq l:=by unfold enc;rw[List.map_map];rfl
abbrev prg (v:Nat) (fs:List F) (ob:F):Prg:=⟨v,fs.map fA,fA ob⟩
structure PSm (v:Nat) (fs:List F) (ob:F):Prop where
 lv:v<=1280
 sz:(prg v fs ob).sz (2^30)
 ok:(prg v fs ob).valid=true
 rows:∀ f,f∈fs->f.fl 2 12/\f.wf (v:Int)
 obj:ob.fl 2 12/\ob.wf (v:Int)
 len:fs.length<=24
theorem sEvQ {f:F}{l:List Rat}{v:Nat}(hf:f.fl 2 12)(hw:f.wf (v:Int))(hl:lfit (2^23) l)(hv:l.length=v)(hv2:v<=1280):zH 149 [av (fA f),qlv l] (.tup [rv (zL (f.at (xr l))),.int .i64 (fun _=>0)]):=by
 have:=zQO f l (m:=2^23) hf (by rw[hv];exact hw) hl (by decide) (by decide) (by decide) (by decide) (by rw[hv];exact Nat.lt_of_le_of_lt hv2 (by decide));have e:rlv (l.map zL)=qlv l:=by show PV.sl _=PV.sl _;rw[zF5]
 rw[e] at this;exact this
theorem zEO {f:F}{l:List Rat}{v:Nat}(hf:f.fl 2 12)(hw:f.wf (v:Int))(hl:lfit (2^23) l)(hv:l.length=v):Fits (2^27) (f.at (xr l)):=by have fx:=zNU (f:=f) (l:=l) (m:=2^23) (by rw[hv];exact hw) hl;have h1:=eQ hf fx f.ts.length;have h2:evS f (xr l) f.ts.length=f.at (xr l):=zHE f _;rw[h2] at h1;exact h1.mono (by have:=hf.len;have:(2+2^23+1)*f.ts.length<=(2+2^23+1)*12:=Nat.mul_le_mul_left _ this;omega)
theorem zN3 {v:Nat}{fs:List F}{ob:F}{x:List Rat}(hP:PSm v fs ob)(hx:lfit (2^23) x)(hv:x.length=v)(h0:∀ f,f∈fs->0<=f.at (xr x)):zH 112 [pgv (prg v fs ob),qlv x] (.bool (fun _=>true)):=by
 have cv:=zN2 _ (hP.sz.mono (by decide));rw[hP.ok] at cv;have hvv:=hP.lv;have hln:=hP.len;have ce:∀ (i:Nat) f,fs[i]?=some f->zH 149 [av (fA f),qlv x] (.tup [rv (zL (f.at (xr x))),.int .i64 (fun _=>0)]):=fun i f hf=>by have:=hP.rows f (List.mem_of_getElem? hf);exact sEvQ this.1 this.2 hx hv hvv
 have cs:∀ (i:Nat) f,fs[i]?=some f->zH 31 [rv (zL (f.at (xr x)))] (.int .i64 (fun _=>yX (f.at (xr x)))):=fun i f hf=>by have:=hP.rows f (List.mem_of_getElem? hf);have h3:=s35 (zL (f.at (xr x))) (by have:=(yD (zEO this.1 this.2 hx hv)).n;omega);rw[yT] at h3;exact h3
 have cg:∀ (i:Nat) f,fs[i]?=some f->0<=yX (f.at (xr x)):=fun i f hf=>by have:=h0 f (List.mem_of_getElem? hf);unfold yX;split;{grind};{split <;> decide}
 refine sF Tryz.f112 ?_;show wp _ ⟨sS 0 [.agg [.int .i64 (fun _=>(v:Int)),.sl (fun _=>enc ac (fs.map fA)),tsv (fA ob).ts,.bool (fun _=>(fA ob).c.neg),nat (fA ob).c.num,nat (fA ob).c.den],qlv x],_⟩ _;clear hP h0;obtain⟨US,hUS⟩:∃ US,fs.map fA=US:=⟨_,rfl⟩;have hUl:US.length=fs.length:=by rw[<-hUS,List.length_map]
 obtain⟨A0,hA0⟩:∃ A0,fA ob=A0:=⟨_,rfl⟩;have cv':zH 24 [.agg [.int .i64 (fun _=>(v:Int)),.sl (fun _=>enc ac (fs.map fA)),tsv (fA ob).ts,.bool (fun _=>(fA ob).c.neg),nat (fA ob).c.num,nat (fA ob).c.den]] (.bool (fun _=>true)):=cv;clear cv;rw[hUS,hA0] at cv';rw[hUS,hA0];obtain⟨ots,oc⟩:=A0;obtain⟨tru,htru⟩:∃ b,b=true:=⟨_,rfl⟩;rw[<-htru] at cv';cbv;refine cA cv' ?_;cbv;refine x7 (fun e1=>?_) (fun e1=>by rw[htru] at e1;cases e1);cbv;refine zF (fun e2=>?_) (fun e2=>?_)
 rotate_left
 {exact absurd (by rw[zN,hv]) e2};cbv;refine z9 (σ:=Nat) (fun i=>⟨[(1,qlv x),(2,.ptr 2 0),(5,.int .i64 (fun _=>(i:Int)))],[(2,.box [.int .i64 (fun _=>(v:Int)),alv US,tsv ots,.bool (fun _=>oc.neg),nat oc.num,nat oc.den])]⟩) (fun i=>i<=US.length) (fun i=>US.length-i) 0 (Nat.zero_le _) (wkZ) ?_;intro i h1;cbv;refine zF (fun h5=>?_) (fun h5=>?_)
 ·(have hlt:=rV h5;obtain⟨f,hf⟩:=zT (show i<fs.length by omega);have hUi:US[i]?=some (fA f):=by rw[<-hUS,List.getElem?_map,hf];rfl);have ce1:=ce i f hf
  have cs1:=cs i f hf;have cg1:=cg i f hf;obtain⟨a,ha⟩:∃ a,fA f=a:=⟨_,rfl⟩;obtain⟨w,hw⟩:∃ w,zL (f.at (xr x))=w:=⟨_,rfl⟩;obtain⟨sg,hsg⟩:∃ w,yX (f.at (xr x))=w:=⟨_,rfl⟩;rw[ha] at hUi ce1;rw[hw] at ce1 cs1;rw[hsg] at cs1 cg1;cbv;refine uM hUi sN m6 ?_;cbv;refine cA ce1 ?_;cbv;refine v6 rfl ?_;cbv;refine cA cs1 ?_;cbv;refine gA om ?_;cbv;exact⟨zD om om,i+1,om,om,wkZ⟩
 ·cbv
  (refine rC ?_;cbv)
  exact zV rfl
theorem zPD {v:Nat}{fs:List F}{ob:F}{x:List Rat}(hP:PSm v fs ob)(hx:lfit (2^23) x)(hv:x.length=v):zH 113 [pgv (prg v fs ob),qlv x] (.tup [rv (zL (ob.at (xr x))),.int .i64 (fun _=>0)]):=by
 have cv:=zN2 _ (hP.sz.mono (by decide));rw[hP.ok] at cv;have ce:=sEvQ hP.obj.1 hP.obj.2 hx hv hP.lv;refine sF Tryz.f113 ?_;show wp _ ⟨sS 0 [.agg [.int .i64 (fun _=>(v:Int)),.sl (fun _=>enc ac (fs.map fA)),tsv (fA ob).ts,.bool (fun _=>(fA ob).c.neg),nat (fA ob).c.num,nat (fA ob).c.den],qlv x],_⟩ _;have hvv:=hP.lv;have cv':zH 24 [.agg [.int .i64 (fun _=>(v:Int)),.sl (fun _=>enc ac (fs.map fA)),tsv (fA ob).ts,.bool (fun _=>(fA ob).c.neg),nat (fA ob).c.num,nat (fA ob).c.den]] (.bool (fun _=>true)):=cv;clear cv hP;obtain⟨US,hUS⟩:∃ US,fs.map fA=US:=⟨_,rfl⟩;obtain⟨A0,hA0⟩:∃ A0,fA ob=A0:=⟨_,rfl⟩;obtain⟨w,hw⟩:∃ w,zL (ob.at (xr x))=w:=⟨_,rfl⟩;rw[hUS,hA0] at cv';rw[hA0,hw] at ce;rw[hUS,hA0,hw];obtain⟨ots,oc⟩:=A0;obtain⟨tru,htru⟩:∃ b,b=true:=⟨_,rfl⟩;rw[<-htru] at cv';cbv;refine cA cv' ?_;cbv;refine yZ (fun e1=>?_) (fun e1=>by rw[htru] at e1;cases e1);cbv;refine zF (fun e2=>?_) (fun e2=>?_)
 rotate_left
 {exact absurd (by rw[zN,hv]) e2};cbv;refine cA ce ?_;cbv
 (refine rC ?_;cbv)
 exact okA
theorem zLY {v:Nat}{US:List A}{ob:A}{x:List Rat}(hx:lfit (2^30) x)(hv:x.length=v)(hvv:v<=1280):zH 111 [pgv ⟨(v:Int),US,ob⟩,qlv x] (.bool (fun _=>true)):=by
 have cv:∀ (i:Nat) c,x[i]?=some c->zH 62 [rv (zL c)] (.bool (fun _=>true)):=fun i c hc=>by have:=s129 (zL c) ((yD (hx c (List.mem_of_getElem? hc))).mono (by decide));rw[a6] at this;exact this
 obtain⟨ots,oc⟩:=ob;refine sF Tryz.f111 ?_;obtain⟨tru,htru⟩:∃ b,b=true:=⟨_,rfl⟩;rw[<-htru] at cv;cbv;refine zF (fun e2=>?_) (fun e2=>?_)
 rotate_left
 {exact absurd (by rw[zN,hv]) e2};cbv;refine z9 (σ:=Nat) (fun i=>⟨[(1,qlv x),(5,.int .i64 (fun _=>(i:Int)))],[]⟩) (fun i=>i<=x.length) (fun i=>x.length-i) 0 (Nat.zero_le _) (wkZ) ?_;intro i h1;cbv;refine zF (fun h5=>?_) (fun h5=>?_)
 ·(have hlt:=rV h5;obtain⟨c,hc⟩:=zT hlt;have cv1:=cv i c hc;obtain⟨C,hC⟩:∃ C,zL c=C:=⟨_,rfl⟩;rw[hC] at cv1;have hc':(x.map zL)[i]?=some C:=by rw[List.getElem?_map,hc,<-hC];rfl);cbv
  rw[<-zF5];refine uM hc' pR iM ?_;cbv;refine cA cv1 ?_;cbv;refine yZ (fun e3=>?_) (fun e3=>by rw[htru] at e3;cases e3);cbv;exact⟨zD om om,i+1,om,om,wkZ⟩
 ·cbv
  (refine rC ?_;cbv)
  exact zV rfl
theorem zHT:zL 0=⟨false,[],[]⟩:=by unfold zL;simp[z6]
theorem zGI {q:Rat}(h:0<=q):0<=yX q:=by unfold yX;split;{grind};{split <;> decide}
theorem eN:fA F.zero=⟨[],⟨false,[],[]⟩⟩:=by rw[zNF]
theorem zN1 {v:Nat}{fs:List F}{ob:A}{ds:List Rat}(hw:∀ f,f∈fs->f.fl 2 12/\f.wf (v:Int))(hln:fs.length<=24)(hd:ds.length=fs.length)(hn:∀ c,c∈ds->0<=c){m:Nat}(hm:m<=2^22)(hml:(m+6)*fs.length+2<=2^26)(hf:lfit m ds):zH 114 [pgv ⟨(v:Int),fs.map fA,ob⟩,qlv ds] (.tup [av (fA (w9 fs ds F.zero)),.bool (fun _=>true)]):=by
 have cv:∀ (i:Nat) c,ds[i]?=some c->zH 62 [rv (zL c)] (.bool (fun _=>true)):=fun i c hc=>by have:=s129 (zL c) ((yD (hf c (List.mem_of_getElem? hc))).mono (by omega));rw[a6] at this;exact this
 have cs:∀ (i:Nat) c,ds[i]?=some c->zH 31 [rv (zL c)] (.int .i64 (fun _=>yX c))/\0<=yX c:=fun i c hc=>by have h3:=s35 (zL c) (by have:=(yD (hf c (List.mem_of_getElem? hc))).n;omega);rw[yT] at h3;exact⟨h3,zGI (hn c (List.mem_of_getElem? hc))⟩
 have st:∀ (i:Nat) (acc:F) f c,fs[i]?=some f->ds[i]?=some c->acc.fl (1+(m+6)*i) (12*i)->Cn acc.ts ->
   zH 27 [av (fA f),rv (zL c)] (av (fA (f.scale c)))/\zH 29 [av (fA acc),av (fA (f.scale c))] (av (fA (acc.add (f.scale c))))/\(acc.add (f.scale c)).fl (1+(m+6)*(i+1)) (12*(i+1))/\Cn (acc.add (f.scale c)).ts:=fun i acc f c h1 h2 h3 h4=>by
  have h5:=hw f (List.mem_of_getElem? h1);have h6:=hf c (List.mem_of_getElem? h2);have hi:=yK h1;have h7:=h5.1.scale h6;have hi2:(m+6)*(i+1)<=(m+6)*fs.length:=Nat.mul_le_mul_left _ hi;rw[Nat.mul_succ] at hi2;have h8:Cn (f.scale c).ts:=(Cn.mrg Cn.nil h5.2.cn);exact⟨zGR h5.1 h6 (by omega) (by omega) (by omega),zN7 h4 h8 h3 h7 (by omega) (by omega) (by omega) (by omega),(h3.add h7).mono (by rw[Nat.mul_succ];omega) (by omega),h4.mrg h8⟩
 obtain⟨US,hUS⟩:∃ US,fs.map fA=US:=⟨_,rfl⟩;have hUl:US.length=fs.length:=by rw[<-hUS,List.length_map]
 obtain⟨T,hT⟩:∃ T,fA (w9 fs ds F.zero)=T:=⟨_,rfl⟩;rw[hT,hUS];obtain⟨ots,oc⟩:=ob;have h00:∃ acc:F,fA acc=⟨[],⟨false,[],[]⟩⟩/\acc.fl (1+(m+6)*0) (12*0)/\Cn acc.ts/\T=fA (w9 (fs.drop 0) (ds.drop 0) acc) :=
  ⟨F.zero,eN,⟨fun t ht=>absurd ht (by simp[F.zero]),y5 (by omega),Nat.le_refl _⟩,Cn.nil,hT.symm⟩
 refine sF Tryz.f114 ?_;obtain⟨tru,htru⟩:∃ b,b=true:=⟨_,rfl⟩;rw[<-htru] at cv;clear hT hw hn hf;cbv;refine zF (fun e2=>?_) (fun e2=>?_)
 rotate_left
 {exact absurd (by rw[zN,zN];show (ds.length:Int)=(US.length:Int);omega) e2};cbv;refine z9 (σ:=Nat×A) (fun s=>⟨[(1,qlv ds),(2,.ptr 2 0),(4,.ptr 4 0),(6,.ptr 6 0),(7,.int .i64 (fun _=>(s.1:Int)))],[(2,.box [.int .i64 (fun _=>(v:Int)),alv US,tsv ots,.bool (fun _=>oc.neg),nat oc.num,nat oc.den]),(4,.box [.nil,.ff,.nil,.nil]),(6,.box [tsv s.2.ts,.bool (fun _=>s.2.c.neg),nat s.2.c.num,nat s.2.c.den])]⟩)
  (fun s=>s.1<=ds.length/\∃ acc:F,fA acc=s.2/\acc.fl (1+(m+6)*s.1) (12*s.1)/\Cn acc.ts/\T=fA (w9 (fs.drop s.1) (ds.drop s.1) acc)) (fun s=>ds.length-s.1) (0,⟨[],⟨false,[],[]⟩⟩) ⟨Nat.zero_le _,h00⟩ (.le okZ (by cbv;repeat' first|exact trivial|exact lR|exact zO rfl|exact zQ rfl|apply And.intro) rfl) ?_
 clear h00;intro s hs;obtain⟨i,a⟩:=s;obtain⟨h1,acc,hacc,g1,g2,g3⟩:=hs;dsimp only at h1 hacc g1 g2 g3;cbv;refine zF (fun h5=>?_) (fun h5=>?_)
 ·(have hlt:=rV h5;obtain⟨c,hc⟩:=zT hlt;obtain⟨f,hff⟩:=zT (show i<fs.length by omega);have hUi:US[i]?=some (fA f):=by rw[<-hUS,List.getElem?_map,hff];rfl);have cv1:=cv i c hc
  (obtain⟨cs1,cs2⟩:=cs i c hc;obtain⟨k1,k2,k3,k4⟩:=st i acc f c hff hc g1 g2;rw[jO hff,jO hc,w9] at g3;obtain⟨acc2,hacc2⟩:∃ x,acc.add (f.scale c)=x:=⟨_,rfl⟩;rw[hacc2] at k2 k3 k4 g3;have h00:∃ acc:F,fA acc=fA acc2/\acc.fl (1+(m+6)*(i+1)) (12*(i+1))/\Cn acc.ts/\T=fA (w9 (fs.drop (i+1)) (ds.drop (i+1)) acc):=⟨acc2,rfl,k3,k4,g3⟩;obtain⟨b,hb⟩:∃ b,fA f=b:=⟨_,rfl⟩;obtain⟨w,hw⟩:∃ w,zL c=w:=⟨_,rfl⟩;obtain⟨m,hm⟩:∃ w,fA (f.scale c)=w:=⟨_,rfl⟩;obtain⟨n,hn⟩:∃ w,fA acc2=w:=⟨_,rfl⟩;obtain⟨sg,hsg⟩:∃ w,yX c=w:=⟨_,rfl⟩;rw[hb] at hUi k1;rw[hw] at cv1 cs1 k1;rw[hm] at k1 k2;rw[hn] at k2 h00;rw[hacc] at k2;rw[hsg] at cs1 cs2;have hc':(ds.map zL)[i]?=some w:=by rw[List.getElem?_map,hc,<-hw];rfl);clear g1 g2 g3 k3 k4 hacc hacc2
  cbv;rw[<-zF5];refine uM hc' pR iM ?_;cbv;refine cA cv1 ?_;cbv;refine x7 (fun e3=>?_) (fun e3=>by rw[htru] at e3;cases e3);cbv;refine uM hc' pR iM ?_;cbv;refine cA cs1 ?_;cbv;refine gA om ?_;cbv;refine zZ 12 (by cbv) ?_;cbv;refine uM hUi sN m6 ?_;cbv;refine uM hc' pR iM ?_;cbv;refine dA k1 ?_;cbv;refine dA k2 ?_;cbv;exact⟨zD om om,(i+1,n),⟨om,h00⟩,om,wkZ⟩
 ·(have hi:i=ds.length:=by have:=zCU h5;omega);have hTa:T=a:=by rw[g3,<-hacc,hi,List.drop_length,hd,List.drop_length];unfold w9;rfl
  subst hTa;cbv
  (refine rC ?_;cbv)
  exact okA
theorem zN0 {v:Nat}{f:F}{x:List Rat}(hf:f.fl 2 12)(hw:f.wf (v:Int))(hx:lfit (2^23) x)(hv:x.length=v)(hv2:v<=1280):zH 115 [av (fA f),qlv x] (rv (zL ((o8 f).at (xr x)))):=by
 have ce:=sEvQ (f:=o8 f) (l:=x) (v:=v) ⟨hf.t,y5 (by decide),hf.len⟩ ⟨hw.cn,hw.v⟩ hx hv hv2;have e:fA (o8 f)=⟨(fA f).ts,⟨false,[],[]⟩⟩:=by show (⟨tR f.ts,zL 0⟩:A)=_;rw[zHT];rfl
 rw[e] at ce;refine sF Tryz.f115 ?_;obtain⟨a,ha⟩:∃ a,fA f=a:=⟨_,rfl⟩;obtain⟨w,hw⟩:∃ w,zL ((o8 f).at (xr x))=w:=⟨_,rfl⟩;rw[ha,hw] at ce;rw[ha,hw];obtain⟨ats,ac0⟩:=a;cbv;refine cA ce ?_;cbv
 (refine rC ?_;cbv)
 exact okA
theorem oE (q:Rat)(h:Fits (2^30) q):zH 30 [rv (zL q),rv (zL q)] (.int .i64 (fun _=>0)):=by
 have hz:=yD h;have:=s42 (zL q) (zL q) (hz.mono (by decide)) (hz.mono (by decide));rw[yT] at this;have e:f6 q q=0:=by unfold f6;rw[if_neg (Rat.lt_irrefl),if_neg (Rat.lt_irrefl)]
 rw[e] at this;exact this
theorem zQQ {v:Nat}{fs:List F}{ob:F}{s:SolR}(hP:PSm v fs ob)(h:SolOk v (fs.map (lnS v)) (lnS v ob) s){m:Nat}(hm:m<=2^22)(hml:(m+6)*fs.length+2<=2^26)(hf0:SolFit m s)(e:s.st=1):zH 63 [pgv (prg v fs ob),slv s] (.bool (fun _=>true)):=by
 have hf:SolFit (2^22) s:=hf0.mono' hm;have hw:∀ f,f∈fs->f.wf (v:Int):=fun f hf=>(hP.rows f hf).2;obtain⟨h1,h2,h3,h4,h5,h6,h7⟩:=h.opt e;have hsub:=h.sub hw hP.obj.2 e;rw[List.length_map] at h4;have hpt:lfit (2^23) s.pt:=hf.pt.mono (by decide);have cp:=zLY (US:=fs.map fA) (ob:=fA ob) (hf.pt.mono (by decide):lfit (2^30) s.pt) h1 hP.lv;have cv:zH 62 [rv (zL s.val)] (.bool (fun _=>true)):=by have:=s129 (zL s.val) ((yD hf.val).mono (by decide));rw[a6] at this;exact this
 have cf:=zN3 hP hpt h1 fun f hm=>by rw[<-m4 (hw f hm)];exact h2 _ (List.mem_map_of_mem hm)
 have ca:=zPD hP hpt h1;rw[<-m4 hP.obj.2,h3] at ca;have cc:=zN1 (ob:=fA ob) hP.rows hP.len h4 h5 hm hml hf0.du;have hcm:=zLK hP.rows hP.len h4 hml hf0.du;have ccw:=zCV (ds:=s.du) (acc:=F.zero) hw F.wf.zero;have cb:=zN6 hP.obj.2.cn ccw.cn hP.obj.1 hcm (by decide) (by decide) (by decide) (by decide);have eb:fA (ob.sub (w9 fs s.du F.zero))=⟨[],zL s.val⟩:=by show (⟨tR _,zL _⟩:A)=_;rw[hsub.1,hsub.2];rfl
 have cb':zH 33 [av (fA ob),av (fA (w9 fs s.du F.zero))] (av ⟨[],zL s.val⟩):=by rw[<-eb];exact cb
 have cm:=oE s.val (hf.val.mono (by decide));clear cb eb hsub h2 h3 h5 h6 hcm ccw hpt hf hP h hw;obtain⟨st,val,pt,du,ry,bas,pv⟩:=s;dsimp only at *
 subst h7;obtain⟨CM,hCM⟩:∃ x,fA (w9 fs du F.zero)=x:=⟨_,rfl⟩;rw[hCM] at cc cb';refine sF Tryz.f63 ?_;show wp _ ⟨sS 0 [.agg [.int .i64 (fun _=>(v:Int)),.sl (fun _=>enc ac (fs.map fA)),tsv (fA ob).ts,.bool (fun _=>(fA ob).c.neg),nat (fA ob).c.num,nat (fA ob).c.den],.agg [.int .i64 (fun _=>(st:Int)),.bool (fun _=>(zL val).neg),nat (zL val).num,nat (zL val).den,qlv pt,qlv du,qlv [],ilv bas,.int .i64 (fun _=>(pv:Int))]],_⟩ _;obtain⟨US,hUS⟩:∃ US,fs.map fA=US:=⟨_,rfl⟩;obtain⟨O,hO⟩:∃ a,fA ob=a:=⟨_,rfl⟩;obtain⟨Z,hZ⟩:∃ a,zL val=a:=⟨_,rfl⟩;obtain⟨tru,htru⟩:∃ b,b=true:=⟨_,rfl⟩;have cf':zH 112 [.agg [.int .i64 (fun _=>(v:Int)),alv (fs.map fA),tsv (fA ob).ts,.bool (fun _=>(fA ob).c.neg),nat (fA ob).c.num,nat (fA ob).c.den],qlv pt] (.bool (fun _=>true)):=cf;have ca':zH 113 [.agg [.int .i64 (fun _=>(v:Int)),alv (fs.map fA),tsv (fA ob).ts,.bool (fun _=>(fA ob).c.neg),nat (fA ob).c.num,nat (fA ob).c.den],qlv pt] (.tup [rv (zL val),.int .i64 (fun _=>0)]):=ca;clear cf ca;rw[hUS,hO] at cp cc cf' ca';rw[hO] at cb';rw[hZ] at ca' cv cm cb';rw[<-htru] at cp cv cf' cc;rw[hUS,hO,hZ];obtain⟨ots,oc⟩:=O;clear hUS hO hZ hCM;cbv;refine cA cp ?_;cbv;refine x7 (fun e=>?_) (fun e=>by rw[htru] at e;cases e);cbv;refine cA cv ?_;cbv;refine x7 (fun e=>?_) (fun e=>by rw[htru] at e;cases e);cbv;refine zOH (by decide) ?_;cbv;refine cA cf' ?_;cbv;refine yZ (fun e=>?_) (fun e=>by rw[htru] at e;cases e);cbv;refine cA ca' ?_;cbv;refine cA cc ?_;cbv;refine x7 (fun e=>?_) (fun e=>by rw[htru] at e;cases e);cbv;refine v6 rfl ?_;cbv;refine cA cm ?_;cbv;refine sG rfl ?_;cbv;refine cA cb' ?_;cbv;refine v6 rfl ?_;cbv;refine cA cm ?_;cbv
 (refine rC ?_;cbv)
 exact zK rfl
theorem zQR {v:Nat}{fs:List F}{ob:F}{s:SolR}(hP:PSm v fs ob)(h:SolOk v (fs.map (lnS v)) (lnS v ob) s){m:Nat}(hm:m<=2^22)(hml:(m+6)*fs.length+2<=2^26)(hf0:SolFit m s)(e:s.st=2):zH 64 [pgv (prg v fs ob),qlv s.du] (.bool (fun _=>true)):=by
 have hf:SolFit (2^22) s:=hf0.mono' hm;have hw:∀ f,f∈fs->f.wf (v:Int):=fun f hf=>(hP.rows f hf).2;obtain⟨h1,h2,h3,h4,h5,h6⟩:=h.inf e;have hsub:=h.neg hw e;rw[List.length_map] at h4;have cc:=zN1 (ob:=fA ob) hP.rows hP.len h4 h5 hm hml hf0.du;have hcm:=zLK hP.rows hP.len h4 hml hf0.du;obtain⟨k,hk⟩:∃ k,(w9 fs s.du F.zero).c=k:=⟨_,rfl⟩;rw[hk] at hsub;have eb:fA (w9 fs s.du F.zero)=⟨[],zL k⟩:=by show (⟨tR _,zL _⟩:A)=_;rw[hsub.1,hk];rfl
 have cs:zH 31 [rv (zL k)] (.int .i64 (fun _=>yX k)):=by have h3:=s35 (zL k) (by have:=(yD (hk ▸ hcm.c)).n;omega);rw[yT] at h3;exact h3
 have hsg:=zGH.2 hsub.2;rw[eb] at cc;obtain⟨tru,htru⟩:∃ b,b=true:=⟨_,rfl⟩;rw[<-htru] at cc;refine sF Tryz.f64 ?_;show wp _ ⟨sS 0 [.agg [.int .i64 (fun _=>(v:Int)),.sl (fun _=>enc ac (fs.map fA)),tsv (fA ob).ts,.bool (fun _=>(fA ob).c.neg),nat (fA ob).c.num,nat (fA ob).c.den],qlv s.du],_⟩ _;obtain⟨US,hUS⟩:∃ US,fs.map fA=US:=⟨_,rfl⟩;obtain⟨O,hO⟩:∃ a,fA ob=a:=⟨_,rfl⟩;obtain⟨Z,hZ⟩:∃ a,zL k=a:=⟨_,rfl⟩;obtain⟨sg,hsg'⟩:∃ a,yX k=a:=⟨_,rfl⟩;obtain⟨D,hD⟩:∃ a,s.du=a:=⟨_,rfl⟩;rw[hUS,hO,hZ,hD] at cc;rw[hZ,hsg'] at cs;rw[hsg'] at hsg;rw[hUS,hO,hD];clear hUS hO hZ hD hk eb hsub hcm h4 h5 h6 h1 h2 h3 hf h hP;obtain⟨ots,oc⟩:=O;cbv;refine cA cc ?_;cbv;refine x7 (fun e=>?_) (fun e=>by rw[htru] at e;cases e);cbv;refine v6 rfl ?_;cbv;refine cA cs ?_;cbv
 (refine rC ?_;cbv)
 exact zK (decide_eq_true hsg)
theorem zQP {v:Nat}{fs:List F}{ob:F}{s:SolR}(hP:PSm v fs ob)(h:SolOk v (fs.map (lnS v)) (lnS v ob) s){m:Nat}(hm:m<=2^22)(hml:(m+6)*fs.length+2<=2^26)(hf0:SolFit m s)(e:s.st=3):zH 65 [pgv (prg v fs ob),qlv s.pt,qlv s.ry] (.bool (fun _=>true)):=by
 have hf:SolFit (2^22) s:=hf0.mono' hm;have hw:∀ f,f∈fs->f.wf (v:Int):=fun f hf=>(hP.rows f hf).2;obtain⟨h1,h2,h3,h4,h5,h6,h7⟩:=h.unb e;have hpt:lfit (2^23) s.pt:=hf.pt.mono (by decide);have hry:lfit (2^23) s.ry:=hf.ry.mono (by decide);have cp:=zLY (US:=fs.map fA) (ob:=fA ob) (hf.pt.mono (by decide):lfit (2^30) s.pt) h3 hP.lv;have cr:=zLY (US:=fs.map fA) (ob:=fA ob) (hf.ry.mono (by decide):lfit (2^30) s.ry) h4 hP.lv;have cf:=zN3 hP hpt h3 fun f hm=>by rw[<-m4 (hw f hm)];exact h5 _ (List.mem_map_of_mem hm)
 have hdf:∀ f:F,f.fl 2 12->f.wf (v:Int)->Fits (2^27) ((o8 f).at (xr s.ry)):=fun f h8 h9=>zEO (f:=o8 f) (l:=s.ry) (v:=v) ⟨h8.t,y5 (by decide),h8.len⟩ ⟨h9.cn,h9.v⟩ hry h4;have cs:∀ q:Rat,Fits (2^27) q->zH 31 [rv (zL q)] (.int .i64 (fun _=>yX q)):=fun q hq=>by have h3:=s35 (zL q) (by have:=(yD hq).n;omega);rw[yT] at h3;exact h3
 have cd:∀ (i:Nat) f,fs[i]?=some f->∃ q:Rat,zH 115 [av (fA f),qlv s.ry] (rv (zL q))/\zH 31 [rv (zL q)] (.int .i64 (fun _=>yX q))/\0<=yX q:=fun i f hi=>by have hm:=List.mem_of_getElem? hi;have h8:=hP.rows f hm;refine⟨_,zN0 h8.1 h8.2 hry h4 hP.lv,cs _ (hdf f h8.1 h8.2),zGI ?_⟩;rw[zLG h8.2];exact h6 _ (List.mem_map_of_mem hm)
 have co:=zN0 hP.obj.1 hP.obj.2 hry h4 hP.lv;have cos:=cs _ (hdf ob hP.obj.1 hP.obj.2);have hon:yX ((o8 ob).at (xr s.ry))<0:=zGH.2 (by rw[zLG hP.obj.2];exact h7);obtain⟨tru,htru⟩:∃ b,b=true:=⟨_,rfl⟩;have cf':zH 112 [.agg [.int .i64 (fun _=>(v:Int)),alv (fs.map fA),tsv (fA ob).ts,.bool (fun _=>(fA ob).c.neg),nat (fA ob).c.num,nat (fA ob).c.den],qlv s.pt] (.bool (fun _=>true)):=cf;rw[<-htru] at cp cr cf';refine sF Tryz.f65 ?_;show wp _ ⟨sS 0 [.agg [.int .i64 (fun _=>(v:Int)),.sl (fun _=>enc ac (fs.map fA)),tsv (fA ob).ts,.bool (fun _=>(fA ob).c.neg),nat (fA ob).c.num,nat (fA ob).c.den],qlv s.pt,qlv s.ry],_⟩ _;obtain⟨US,hUS⟩:∃ US,fs.map fA=US:=⟨_,rfl⟩;have hUl:US.length=fs.length:=by rw[<-hUS,List.length_map]
 have hUb:US.length<=24:=by rw[hUl];exact hP.len
 obtain⟨O,hO⟩:∃ a,fA ob=a:=⟨_,rfl⟩;obtain⟨Q,hQ⟩:∃ a,(o8 ob).at (xr s.ry)=a:=⟨_,rfl⟩;rw[hQ] at co cos hon;obtain⟨Z,hZ⟩:∃ a,zL Q=a:=⟨_,rfl⟩;obtain⟨sg,hsg'⟩:∃ a,yX Q=a:=⟨_,rfl⟩;obtain⟨D,hD⟩:∃ a,s.pt=a:=⟨_,rfl⟩;obtain⟨E,hE⟩:∃ a,s.ry=a:=⟨_,rfl⟩;rw[hUS,hO,hD] at cp cf';rw[hUS,hO,hE] at cr;rw[hO,hE,hZ] at co;rw[hZ,hsg'] at cos;rw[hsg'] at hon;rw[hE] at cd;rw[hUS,hO,hD,hE];clear hO hZ hD hE h4 h5 h6 h1 h2 h3 h7 hf h hP hry hpt hdf cs hw cf;obtain⟨ots,oc⟩:=O;have cd':∀ (i:Nat),i<US.length->∃ (a:A) (q:R) (n:Int),US[i]?=some a/\zH 115 [av a,qlv E] (rv q)/\zH 31 [rv q] (.int .i64 (fun _=>n))/\0<=n:=fun i hi=>by obtain⟨f,hf⟩:=zT (show i<fs.length by omega);obtain⟨q,q1,q2,q3⟩:=cd i f hf;exact⟨fA f,zL q,yX q,by rw[<-hUS,List.getElem?_map,hf];rfl,q1,q2,q3⟩
 clear cd hUS hUl;cbv;refine cA cp ?_;cbv;refine x7 (fun e=>?_) (fun e=>by rw[htru] at e;cases e);cbv;refine cA cr ?_;cbv;refine x7 (fun e=>?_) (fun e=>by rw[htru] at e;cases e);cbv;refine cA cf' ?_;cbv;refine yZ (fun e=>?_) (fun e=>by rw[htru] at e;cases e);cbv;refine z9 (σ:=Nat) (fun i=>⟨[(2,qlv E),(3,.ptr 3 0),(7,.int .i64 (fun _=>(i:Int)))],[(3,.box [.int .i64 (fun _=>(v:Int)),alv US,tsv ots,.bool (fun _=>oc.neg),nat oc.num,nat oc.den])]⟩) (fun i=>i<=US.length) (fun i=>US.length-i) 0 (Nat.zero_le _) (wkZ) ?_;intro i h1;cbv;refine zF (fun h5=>?_) (fun h5=>?_);{have hlt:=rV h5;obtain⟨a,q,n,k1,k2,k3,k4⟩:=cd' i hlt;cbv;refine uM k1 sN m6 ?_;cbv;refine cA k2 ?_;cbv;refine cA k3 ?_;cbv;refine gA om ?_;cbv;exact⟨zD om om,i+1,om,om,wkZ⟩}
 ·cbv;refine cA co ?_;cbv;refine cA cos ?_;cbv
  (refine rC ?_;cbv)
  exact zK (decide_eq_true hon)
theorem zPC {v:Nat}{fs:List F}{ob:F}{s:SolR}(hP:PSm v fs ob)(h:SolOk v (fs.map (lnS v)) (lnS v ob) s){m:Nat}(hm:m<=2^22)(hml:(m+6)*fs.length+2<=2^26)(hf0:SolFit m s):zH 23 [pgv (prg v fs ob),slv s] (.bool (fun _=>true)):=by
 have hf:SolFit (2^22) s:=hf0.mono' hm;have cv:zH 62 [rv (zL s.val)] (.bool (fun _=>true)):=by have:=s129 (zL s.val) ((yD hf.val).mono (by decide));rw[a6] at this;exact this
 have cs:zH 31 [rv (zL s.val)] (.int .i64 (fun _=>yX s.val)):=by have h3:=s35 (zL s.val) (by have:=(yD hf.val).n;omega);rw[yT] at h3;exact h3
 have c1:=fun e=>zQQ hP h hm hml hf0 e;have c2:=fun e=>zQR hP h hm hml hf0 e;have c3:=fun e=>zQP hP h hm hml hf0 e;have hO:=h.one;have z2:s.st=2->yX s.val=0/\s.pt=[]/\s.ry=[]:=fun e=>⟨by rw[(h.inf e).2.2.1];rfl,(h.inf e).1,(h.inf e).2.1⟩;have z3:s.st=3->yX s.val=0/\s.du=[]:=fun e=>⟨by rw[(h.unb e).2.1];rfl,(h.unb e).1⟩;clear h hf hf0 hm hml hP;refine sF Tryz.f23 ?_;show wp _ ⟨sS 0 [.agg [.int .i64 (fun _=>(v:Int)),.sl (fun _=>enc ac (fs.map fA)),tsv (fA ob).ts,.bool (fun _=>(fA ob).c.neg),nat (fA ob).c.num,nat (fA ob).c.den],slv s],_⟩ _;have c1':s.st=1->zH 63 [.agg [.int .i64 (fun _=>(v:Int)),alv (fs.map fA),tsv (fA ob).ts,.bool (fun _=>(fA ob).c.neg),nat (fA ob).c.num,nat (fA ob).c.den],slv s] (.bool (fun _=>true)):=c1;have c2':s.st=2->zH 64 [.agg [.int .i64 (fun _=>(v:Int)),alv (fs.map fA),tsv (fA ob).ts,.bool (fun _=>(fA ob).c.neg),nat (fA ob).c.num,nat (fA ob).c.den],qlv s.du] (.bool (fun _=>true)):=c2;have c3':s.st=3->zH 65 [.agg [.int .i64 (fun _=>(v:Int)),alv (fs.map fA),tsv (fA ob).ts,.bool (fun _=>(fA ob).c.neg),nat (fA ob).c.num,nat (fA ob).c.den],qlv s.pt,qlv s.ry] (.bool (fun _=>true)):=c3;clear c1 c2 c3;obtain⟨US,hUS⟩:∃ US,fs.map fA=US:=⟨_,rfl⟩;obtain⟨O,hO'⟩:∃ a,fA ob=a:=⟨_,rfl⟩;obtain⟨st,val,pt,du,ry,bas,pv⟩:=s;dsimp only at *
 rw[hUS,hO'] at c1' c2' c3';rw[hUS,hO'];clear hUS hO';obtain⟨Z,hZ⟩:∃ a,zL val=a:=⟨_,rfl⟩;obtain⟨sg,hsg⟩:∃ a,yX val=a:=⟨_,rfl⟩;obtain⟨tru,htru⟩:∃ b,b=true:=⟨_,rfl⟩;unfold slv at c1';dsimp only at c1';rw[hZ,<-htru] at c1';rw[<-htru] at c2' c3';rw[hZ,<-htru] at cv;rw[hZ,hsg] at cs;rw[hsg] at z2 z3;unfold slv;dsimp only;rw[hZ];obtain⟨ots,oc⟩:=O;clear hZ hsg;rcases hO with e|e|e
 ·have k1:=c1' e;subst e;clear c1' c2' c3' z2 z3;cbv;refine cA cv ?_;cbv;refine x7 (fun e=>?_) (fun e=>by rw[htru] at e;cases e);cbv;refine cA cs ?_;cbv;refine sG rfl ?_;cbv;refine cA k1 ?_;cbv
  (refine rC ?_;cbv)
  exact zK htru
 ·have k1:=c2' e;obtain⟨z0,z1,z4⟩:=z2 e;subst e z0 z1 z4;clear c1' c2' c3' z2 z3;cbv;refine cA cv ?_;cbv;refine x7 (fun e=>?_) (fun e=>by rw[htru] at e;cases e);cbv;refine cA cs ?_;cbv;refine gA (by decide) ?_;cbv;refine sG rfl ?_;cbv;refine v6 rfl ?_;cbv;refine v6 rfl ?_;cbv;refine v6 rfl ?_;cbv;refine cA k1 ?_;cbv
  (refine rC ?_;cbv)
  exact zK htru
 ·have k1:=c3' e;obtain⟨z0,z1⟩:=z3 e;subst e z0 z1;clear c1' c2' c3' z2 z3;cbv;refine cA cv ?_;cbv;refine x7 (fun e=>?_) (fun e=>by rw[htru] at e;cases e);cbv;refine cA cs ?_;cbv;refine gA (by decide) ?_;cbv;refine gA (by decide) ?_;cbv;refine sG rfl ?_;cbv;refine v6 rfl ?_;cbv;refine v6 rfl ?_;cbv;refine cA k1 ?_;cbv
  (refine rC ?_;cbv)
  exact zK htru
theorem iP {v:Int}{q:Rat}{r:List (Int×Rat)}{k:Nat}(hq:Fits k q)(hr:∀ t,t∈r->Fits k t.2):∀ t,t∈pc v q r->Fits k t.2:=fun t ht=>by unfold pc at ht;split at ht;{exact hr t ht};{rcases List.mem_cons.1 ht with rfl|ht;{exact hq};{exact hr t ht}}
theorem iN {v:Int}{q:Rat}{k m:Nat}(hq:Fits k q):∀ {d:Bool} {l:List (Int×Rat)},(∀ t,t∈l->Fits m t.2)->∀ t,t∈y7 v q d l->Fits (m+k+1) t.2
 |d,[],_,t,ht=>by unfold y7 at ht;split at ht;{simp at ht};{exact iP (hq.mono (by omega)) (fun u hu=>absurd hu (by simp)) t ht}| d,u::r,h,t,ht=>by have h1:=h u List.mem_cons_self;have h2:∀ d t,t∈y7 v q d r->Fits (m+k+1) t.2:=fun d=>iN hq (fun x hx=>h x (List.mem_cons_of_mem _ hx));unfold y7 at ht;split at ht;{exact iP ((qF h1 hq).mono (by omega)) (h2 true) t ht};{split at ht;{exact iP (hq.mono (by omega)) (iP (h1.mono (by omega)) (h2 true)) t ht};{exact iP (h1.mono (by omega)) (h2 d) t ht}}
theorem zQN (ts:List (Int×Rat))(c:Rat)(hv:∀ t,t∈ts->0<=t.1)(hf:∀ t,t∈ts->Fits (2^20) t.2)(hc:Fits (2^20) c)(hp:∀ i,Tfit (2^30) (plusAll [] (ts.take i)))(hl:ts.length<2^30):zH 128 [tsv (tR ts),rv (zL c)] (.tup [av (fA ⟨plusAll [] ts,c⟩),.int .i64 (fun _=>0)]):=by
 have cc:=s47 (zL c) ((yD hc).mono (by decide));rw[yT] at cc;have cp:∀ (i:Nat) t,ts[i]?=some t->zH 72 [av ⟨tR (plusAll [] (ts.take i)),zL c⟩,.int .i64 (fun _=>t.1),rv (zL t.2)] (av ⟨tR (plusAll [] (ts.take (i+1))),zL c⟩):=fun i t ht=>by
  (have:=zN4 (plusAll [] (ts.take i)) (zL c) t.1 (zL t.2) (hp i) ((yD (hf t (List.mem_of_getElem? ht))).mono (by decide));rw[yT] at this;have e:y7 t.1 t.2 false (plusAll [] (ts.take i))=plusAll [] (ts.take (i+1)):=by rw[List.take_add_one,ht];show _=plusAll [] (ts.take i++[t]);rw[pT]);rw[e] at this;exact this
 have hz:tR (plusAll [] (ts.take 0))=[]:=rfl;have hlen:=vM ts;have hT:ts.take ts.length=ts:=List.take_length;show zH _ _ (.tup [.agg [tsv (tR (plusAll [] ts)),.bool (fun _=>(zL c).neg),nat (zL c).num,nat (zL c).den],_]);obtain⟨Z,hZ⟩:∃ Z,zL c=Z:=⟨_,rfl⟩;obtain⟨T,hTT⟩:∃ T:Nat->List (Int×R),∀ i,tR (plusAll [] (ts.take i))=T i:=⟨_,fun _=>rfl⟩;have hz':T 0=[]:=by rw[<-hTT];rfl
 have hT':tR (plusAll [] ts)=T ts.length:=by rw[<-hTT,hT]
 simp only[hTT,hZ] at cp;rw[hZ] at cc;rw[hT',hZ];clear hp hTT hT hT' hZ hc hz;have hgi:∀ (i:Nat) t,ts[i]?=some t->(tR ts)[i]?=some (t.1,zL t.2):=fun i t ht=>by unfold tR;rw[List.getElem?_map,ht];rfl
 have hv':∀ (i:Nat) t,ts[i]?=some t->0<=t.1:=fun i t ht=>hv t (List.mem_of_getElem? ht);clear hv hf;obtain⟨TS,hTS⟩:∃ TS,tR ts=TS:=⟨_,rfl⟩;rw[hTS] at hlen hgi;rw[hTS];refine sF Tryz.f128 ?_;cbv;refine cA cc ?_;cbv;refine z9 (σ:=Nat×List (Int×R)) (fun s=>⟨[(0,tsv TS),(4,.ptr 4 0),(6,.ptr 6 0),(7,.int .i64 (fun _=>(s.1:Int)))],[(4,.box [.nil,.ff,.nil,.nil]),(6,.box [tsv s.2,.bool (fun _=>Z.neg),nat Z.num,nat Z.den])]⟩)
  (fun s=>s.1<=ts.length/\s.2=T s.1) (fun s=>ts.length-s.1) (0,[]) ⟨Nat.zero_le _,hz'.symm⟩ (wkZ) ?_
 intro s hs;obtain⟨i,W⟩:=s;obtain⟨h1,h2⟩:=hs;dsimp only at h1 h2;cbv;refine zF (fun h5=>?_) (fun h5=>?_)
 ·(have hlt:i<ts.length:=by have:=rV h5;omega);obtain⟨t,ht⟩:=zT hlt
  have hg:=hgi i t ht;have hv1:=hv' i t ht;have cp1:=cp i t ht;obtain⟨V,hV⟩:∃ V,T (i+1)=V:=⟨_,rfl⟩;rw[<-h2,hV] at cp1;obtain⟨q,hq⟩:∃ q,zL t.2=q:=⟨_,rfl⟩;rw[hq] at hg cp1;obtain⟨y,c0⟩:=t;dsimp only at hg hv1 cp1;cbv;refine uM hg qJ jI ?_;cbv;refine gA om ?_;cbv;refine zZ 12 (by cbv) ?_;cbv;refine uM hg qJ jI ?_;cbv;refine uM hg qJ jI ?_;cbv;refine dA cp1 ?_;cbv;exact⟨zD om om,(i+1,V),⟨om,hV.symm⟩,om,wkZ⟩
 ·(have hi:i=ts.length:=by have:=zCU h5 (by omega);omega);subst hi
  rw[<-h2];cbv
  (refine rC ?_;cbv)
  exact okA
theorem zPE {TS:List (Int×R)}{Z:R}{a:A}(cm:zH 128 [tsv TS,rv Z] (.tup [av a,.int .i64 (fun _=>0)])):zH 84 [tsv TS,rv Z] (av a):=by
 refine sF Tryz.f84 ?_;obtain⟨ats,ac0⟩:=a;cbv;refine cA cm ?_;cbv
 (refine rC ?_;cbv)
 exact okA
def frm (c0 c1 c:Int):F:=⟨plusAll [] [(0,(c0:Rat)),(1,(c1:Rat))],(c:Rat)⟩
theorem cT {z:Int}(h:z.natAbs<=8):Fits 1 (z:Rat):=aJ (Nat.lt_of_le_of_lt h (by decide)) (Nat.le_refl 1)
theorem zBX {m:Nat}:∀ {g l:List (Int×Rat)},(∀ t,t∈g->Fits 1 t.2)->(∀ t,t∈l->Fits m t.2)->∀ t,t∈plusAll l g->Fits (m+2*g.length) t.2
 |[],l,_,h,t,ht=>h t ht| u::g,l,hg,h,t,ht=>by have e:plusAll l (u::g)=plusAll (y7 u.1 u.2 false l) g:=rfl;rw[e] at ht;have:=zBX (m:=m+2) (g:=g) (l:=y7 u.1 u.2 false l) (fun x hx=>hg x (List.mem_cons_of_mem _ hx)) (iN (hg u List.mem_cons_self) h) t ht;exact this.mono (by rw[List.length_cons];omega)
theorem zA0 {c0 c1:Int}(h0:c0.natAbs<=8)(h1:c1.natAbs<=8):∀ t,t∈[((0:Int),(c0:Rat)),(1,(c1:Rat))]->0<=t.1/\Fits 1 t.2:=fun t ht=>by rcases List.mem_cons.1 ht with rfl|ht;{exact⟨Int.le_refl 0,cT h0⟩};{rcases List.mem_cons.1 ht with rfl|ht;{exact⟨show (0:Int)<=1 by decide,cT h1⟩};{simp at ht}}
theorem zM2 {c0 c1 c:Int}(h0:c0.natAbs<=8)(h1:c1.natAbs<=8)(h2:c.natAbs<=8):zH 84 [tsv [(0,zL (c0:Rat)),(1,zL (c1:Rat))],rv (zL (c:Rat))] (av (fA (frm c0 c1 c))):=by have ht:=zA0 h0 h1;refine zPE (zQN [(0,(c0:Rat)),(1,(c1:Rat))] c (fun t h=>(ht t h).1) (fun t h=>(ht t h).2.mono (by decide)) ((cT h2).mono (by decide)) (fun i=>⟨?_,fun t h=>?_⟩) (show 2<2^30 by decide));{refine Nat.lt_of_le_of_lt (dF _ _) ?_;rw[List.length_take];have:([]:List (Int×Rat)).length=0:=rfl;have:([((0:Int),(c0:Rat)),(1,(c1:Rat))]:List (Int×Rat)).length=2:=rfl;omega};{refine (zBX (m:=1) (g:=[((0:Int),(c0:Rat)),(1,(c1:Rat))].take i) (l:=[]) (fun t h=>(ht t (List.mem_of_mem_take h)).2) (fun t h=>absurd h (by simp)) t h).mono ?_;rw[List.length_take];have:([((0:Int),(c0:Rat)),(1,(c1:Rat))]:List (Int×Rat)).length=2:=rfl;omega}
theorem iB {c0 c1 c:Int}(h0:c0.natAbs<=8)(h1:c1.natAbs<=8)(h2:c.natAbs<=8):zH 45 [.int .i64 (fun _=>c0),.int .i64 (fun _=>c1),.int .i64 (fun _=>c)] (av (fA (frm c0 c1 c))):=by
 have cf:=zM2 h0 h1 h2;have k0:=s32 c0 (by omega) (by omega);have k1:=s32 c1 (by omega) (by omega);have k2:=s32 c (by omega) (by omega);refine sF Tryz.f45 ?_;obtain⟨a,ha⟩:∃ a,fA (frm c0 c1 c)=a:=⟨_,rfl⟩;rw[ha] at cf;rw[ha];obtain⟨ats,ac0⟩:=a;obtain⟨A0,hA0⟩:∃ a,zL (c0:Rat)=a:=⟨_,rfl⟩;obtain⟨A1,hA1⟩:∃ a,zL (c1:Rat)=a:=⟨_,rfl⟩;obtain⟨A2,hA2⟩:∃ a,zL (c:Rat)=a:=⟨_,rfl⟩;rw[hA0] at k0 cf;rw[hA1] at k1 cf;rw[hA2] at k2 cf;clear hA0 hA1 hA2;cbv;refine cA k0 ?_;cbv;refine cA k1 ?_;cbv;refine cA k2 ?_;cbv;refine cA cf ?_;cbv
 (refine rC ?_;cbv)
 exact okA
theorem zKS:ty 22=.sli 4 80 [.nil,.ff,.nil,.nil]:=by cbv
theorem zQS (a b c d:A)(ha:fA (frm 1 1 0)=a)(hb:fA (frm 1 2 (-4))=b)(hc:fA (frm 1 0 0)=c)(hd:fA (frm 0 1 0)=d):Sound 44 [] [] [] (.agg [.int .i64 (fun _=>2),.osl 5 4 (fun _=>0) (fun _=>3),tsv a.ts,.bool (fun _=>a.c.neg),nat a.c.num,nat a.c.den]) [] [(5,.arr 4 (fun _=>enc ac [b,c,d]))]:=by
 have k0:=iB (c0:=1) (c1:=1) (c:=0) (by decide) (by decide) (by decide);have k1:=iB (c0:=1) (c1:=2) (c:=-4) (by decide) (by decide) (by decide);have k2:=iB (c0:=1) (c1:=0) (c:=0) (by decide) (by decide) (by decide);have k3:=iB (c0:=0) (c1:=1) (c:=0) (by decide) (by decide) (by decide);rw[ha] at k0;rw[hb] at k1;rw[hc] at k2;rw[hd] at k3;clear ha hb hc hd;refine sF Tryz.f44 ?_;obtain⟨ats,ac0⟩:=a;obtain⟨bts,bc⟩:=b;obtain⟨cts,cc⟩:=c;obtain⟨dts,dc⟩:=d;cbv;refine cA k0 ?_;cbv;refine cA k1 ?_;cbv;refine cA k2 ?_;cbv;refine cA k3 ?_;cbv;refine zNQ (by cbv) ?_;cbv;refine pM id (.refl _) rfl (by exact⟨⟨rfl,rfl⟩,trivial⟩) (by rfl) (by exact trivial) ?_;cbv
 repeat' first|exact trivial|exact lR|exact yB rfl rfl|apply And.intro
end Go.Proofs.YtfainocfaddbdaaGreat
