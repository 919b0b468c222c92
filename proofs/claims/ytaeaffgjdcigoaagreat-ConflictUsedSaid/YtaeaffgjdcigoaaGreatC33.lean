/- A part of the proof: AlA, BrC, KpS, KpF, KcO, KpA, KpB, KpC. -/
import Derived.Test.YtaeaffgjdcigoaaGreatC32
import Derived.Test.YtaeaffgjdcigoaaGreatC29
import Derived.Test.YtaeaffgjdcigoaaGreatC28
import Derived.Test.YtaeaffgjdcigoaaGreatC27
import Derived.Maps.Own
import Derived.Lib.SlKeysI
import Derived.Maps.Range
import Derived.Test.YtaeaffgjdcigoaaGreatC41
import Derived.Test.YtaeaffgjdcigoaaGreatC24
import Derived.Test.YtaeaffgjdcigoaaGreatC21
set_option linter.all false
namespace Go.Proofs.YtaeaffgjdcigoaaGreat
open Go
set_option maxRecDepth 100000
set_option maxHeartbeats 4000000
theorem zYM (s:Scp)(j:Int)(hs:s.sz (2^20)):zE 110 [sv s,.int .i64 (fun _=>j)] (.tup [.bool (fun _=>s.onU j),.bool (fun _=>s.offU j)]):=by
 refine sF Tryz.f110 ?_;have cb:=cK s j hs.lems;have cd1:=eU s 1 j (hs.path.mono (by decide));have cd2:=eU s 2 j (hs.path.mono (by decide));have csg:∀ m,m∈s.lems->zE 30 [rv m.v] (.int .i64 (fun _=>z4 m.v.q)):=fun m hm=>s35 m.v (by have:=(hs.lems.sz m hm).n;omega);have hlen:=hs.lems.len;have hbb:∀ k:Nat,(k=(s.best j).1\/k=(s.best j).2)->k≠0->∃ m,s.lems[k-1]?=some m/\k-1<s.lems.length:=fun k hk h0=>by obtain⟨m,hm,_⟩:=dU hk h0;exact⟨m,hm,(wH.1 hm).1⟩
 have hb1:=hbb _ (.inl rfl);have hb2:=hbb _ (.inr rfl);clear hbb;have hv:∀ (k:Nat) m,s.lems[k-1]?=some m->qO s.lems k=m.v.q:=fun k m h=>by unfold qO;rw[h];rfl
 have hon:s.onU j=(s.dcd 1 j || (decide (0<(s.best j).1)&&decide (0<=z4 (qO s.lems (s.best j).1)))):=rfl;have hoff:s.offU j=(s.dcd 2 j || (decide (0<(s.best j).2)&&decide (z4 (qO s.lems (s.best j).2)<=0))):=rfl;generalize s.onU j=on at *
 generalize s.offU j=off at *
 generalize s.dcd 1 j=d1 at *
 generalize s.dcd 2 j=d2 at *
 generalize (s.best j).1=b1 at *
 generalize (s.best j).2=b2 at *
 have o11:d1=true->on=true:=fun h=>by rw[hon,h];rfl
 have o12:d1=false->b1=0->on=false:=fun h g=>by rw[hon,h,g];rfl
 have o13:d1=false->∀ m,s.lems[b1-1]?=some m->0<b1->on=decide (0<=z4 m.v.q):=fun h m hm g=>by rw[hon,h,hv b1 m hm,decide_eq_true g];rfl
 have o21:d2=true->off=true:=fun h=>by rw[hoff,h];rfl
 have o22:d2=false->b2=0->off=false:=fun h g=>by rw[hoff,h,g];rfl
 have o23:d2=false->∀ m,s.lems[b2-1]?=some m->0<b2->off=decide (z4 m.v.q<=0):=fun h m hm g=>by rw[hoff,h,hv b2 m hm,decide_eq_true g];rfl
 clear hon hoff hv hs;obtain⟨⟨⟨gn,us,os⟩,⟨lo,hi,rows⟩,⟨ts,c1,c2,c3⟩⟩,path,L⟩:=s;dsimp only at csg hlen hb1 hb2 o13 o23;cbv;refine cA cb ?_;cbv;refine cA cd1 ?_;cbv;refine z7 (fun eA=>?_) (fun eA=>?_)
 ·have qA:=o11 eA;cbv;refine cA cd2 ?_;cbv;refine z7 (fun eB=>?_) (fun eB=>?_)
  ·have qB:=o21 eB;cbv
   (refine rC ?_;cbv)
   exact⟨yN qA,yN qB,trivial⟩
  ·cbv;refine zQ (fun fB=>?_) (fun fB=>?_)
   ·(have gB:b2≠0:=by (try dsimp only [zF] at *);omega);obtain⟨mB,hmB,hlB⟩:=hb2 gB
    have qB:=o23 eB mB hmB oM;have csB:=csg mB (yA hmB);have ixB:∀ {K:List PV->Prop},K (lc mB)->IdxOk 6 (fun _=>enc lc L) (fun _=>(b2:Int)-1) K:=fun hK=>xL hmB oM xX wJ hK;generalize z4 mB.v.q=sgB at *
    cbv;refine⟨zD om om,ixB ?_⟩;cbv;refine cA csB ?_;cbv
    (refine rC ?_;cbv)
    exact⟨yN qA,zV qB.symm,trivial⟩
   ·have qB:=o22 eB om;cbv
    (refine rC ?_;cbv)
    exact⟨yN qA,zM qB,trivial⟩
 ·cbv;refine zQ (fun fA=>?_) (fun fA=>?_)
  ·(have gA:b1≠0:=by (try dsimp only [zF] at *);omega);obtain⟨mA,hmA,hlA⟩:=hb1 gA
   have qA:=o13 eA mA hmA oM;have csA:=csg mA (yA hmA);have ixA:∀ {K:List PV->Prop},K (lc mA)->IdxOk 6 (fun _=>enc lc L) (fun _=>(b1:Int)-1) K:=fun hK=>xL hmA oM xX wJ hK;generalize z4 mA.v.q=sgA at *
   cbv;refine⟨zD om om,ixA ?_⟩;cbv;refine cA csA ?_;cbv;refine cA cd2 ?_;cbv;refine z7 (fun eB=>?_) (fun eB=>?_)
   ·have qB:=o21 eB;cbv
    (refine rC ?_;cbv)
    exact⟨zV qA.symm,yN qB,trivial⟩
   ·cbv;refine zQ (fun fB=>?_) (fun fB=>?_)
    ·(have gB:b2≠0:=by (try dsimp only [zF] at *);omega);obtain⟨mB,hmB,hlB⟩:=hb2 gB
     have qB:=o23 eB mB hmB oM;have csB:=csg mB (yA hmB);have ixB:∀ {K:List PV->Prop},K (lc mB)->IdxOk 6 (fun _=>enc lc L) (fun _=>(b2:Int)-1) K:=fun hK=>xL hmB oM xX wJ hK;generalize z4 mB.v.q=sgB at *
     cbv;refine⟨zD om om,ixB ?_⟩;cbv;refine cA csB ?_;cbv
     (refine rC ?_;cbv)
     exact⟨zV qA.symm,zV qB.symm,trivial⟩
    ·have qB:=o22 eB om;cbv
     (refine rC ?_;cbv)
     exact⟨zV qA.symm,zM qB,trivial⟩
  ·have qA:=o12 eA om;cbv;refine cA cd2 ?_;cbv;refine z7 (fun eB=>?_) (fun eB=>?_)
   ·have qB:=o21 eB;cbv
    (refine rC ?_;cbv)
    exact⟨zM qA,yN qB,trivial⟩
   ·cbv;refine zQ (fun fB=>?_) (fun fB=>?_)
    ·(have gB:b2≠0:=by (try dsimp only [zF] at *);omega);obtain⟨mB,hmB,hlB⟩:=hb2 gB
     have qB:=o23 eB mB hmB oM;have csB:=csg mB (yA hmB);have ixB:∀ {K:List PV->Prop},K (lc mB)->IdxOk 6 (fun _=>enc lc L) (fun _=>(b2:Int)-1) K:=fun hK=>xL hmB oM xX wJ hK;generalize z4 mB.v.q=sgB at *
     cbv;refine⟨zD om om,ixB ?_⟩;cbv;refine cA csB ?_;cbv
     (refine rC ?_;cbv)
     exact⟨zM qA,zV qB.symm,trivial⟩
    ·have qB:=o22 eB om;cbv
     (refine rC ?_;cbv)
     exact⟨zM qA,zM qB,trivial⟩
theorem rU8 (w:World):ElR w 5 1 (fun _=>True) u8c :=
 (yAV (k:=.u8) Tryz.underlying5 (by kernel_rfl)).map (fun n=>UInt8.ofNat n.toNat) (fun n h=>by
  (have:0<=n/\n<=255:=by simpa[Lit.wf,IntKind.min,IntKind.max,IntKind.signed,IntKind.bits] using h);have e:((UInt8.ofNat n.toNat).toNat:Int)=n:=by rw[UInt8.toNat_ofNat_of_lt' (by show n.toNat<256;omega)];omega
  show [D.int .u8 _]=[D.int .u8 _];rw[e]) (fun _ _=>trivial)
theorem zSX (w:World):ElR w 22 1 (fun l=>l.length<=maxLen) (fun l=>[u8v l]) :=
 (zV4 (k:=1) Tryz.underlying22 (by kernel_rfl) (by decide) (rU8 w)).map (fun l=>l) (fun _ _=>rfl) (fun _ h=>h.2)
def leI' (x y:Int):Bool:=decide (x<=y)
def jV (ks:List Int):List Int:=ks.eraseDups.mergeSort leI'
theorem zCH (ks:List Int):ks.eraseDups.Nodup:=by
 have key:∀ (n:Nat) (l:List Int),l.length<=n->l.eraseDups.Nodup:=by
  intro n;induction n with
  |zero=>intro l h;have:l=[]:=List.eq_nil_of_length_eq_zero (by omega);subst this;simp| succ n ih =>
   intro l h;cases l with
   |nil=>simp| cons a r =>
    rw[List.eraseDups_cons];refine List.nodup_cons.2 ⟨fun hm=>?_,ih _ ?_⟩;{rw[List.mem_eraseDups] at hm;simp at hm};{have:=List.length_filter_le (fun b=>!b == a) r;simp only[List.length_cons] at h;omega}
 exact key _ ks (Nat.le_refl _)
theorem zPA {l l':List Int}(h:∀ x,x∈l↔x∈l')(h1:l.Nodup)(h2:l'.Pairwise (·<·)):l.mergeSort leI'=l':=by
 have tr:∀ a b c:Int,leI' a b=true->leI' b c=true->leI' a c=true:=fun a b c h1 h2=>by simp only[leI',decide_eq_true_eq] at *;omega
 have to:∀ a b:Int,(leI' a b || leI' b a)=true:=fun a b=>by simp only[leI',Bool.or_eq_true,decide_eq_true_eq];omega
 refine List.Perm.eq_of_pairwise (le:=fun a b=>leI' a b=true) (fun a b _ _ h1 h2=>by simp only[leI',decide_eq_true_eq] at h1 h2;omega) (List.pairwise_mergeSort tr to l) (h2.imp fun {a b} h=>by simp only[leI',decide_eq_true_eq];omega) ((List.mergeSort_perm l _).trans ?_);exact (List.perm_ext_iff_of_nodup h1 (h2.imp fun {a b} h=>by omega)).2 h
theorem zJO {ks l:List Int}(h:∀ x,x∈ks↔x∈l)(h2:l.Pairwise (·<·)):jV ks=l:=zPA (fun x=>by rw[List.mem_eraseDups];exact h x) (zCH ks) h2
end Go.Proofs.YtaeaffgjdcigoaaGreat
namespace Go.Proofs.YtaeaffgjdcigoaaGreat
open Go Go.Maps WideElems Go.WideShapes
theorem zPS {P:Program}{w:World}{k b n:Nat}{R:Value->Option (DataW Unit×List MemPlace)}{D:DataW Unit}{ks:List Int}(hk:P.underlying k=some (.int .i64))(hown:w.ownsMap P k R b n D) (hat:∀ x:Int,(Lit.int .i64 x).wf=true->∀ z:DataW Unit,D.atKey (.int .i64 x) z=if x∈ks then .lit (.bool true) else z) (hwf:∀ x,x∈ks->(Lit.int .i64 x).wf=true):ks.eraseDups.Perm (intKeys D)/\Maps.size D<=n:=by
 obtain⟨es,clock,hb,F,hn,rfl⟩:=hown;have hK:=Maps.int_keyed (P:=P) hk;have hks:=fit_keys F;have hap:=fit_apart hK F;have hP:((es.toList.map (rg P k R)).foldr DataW.insert []).Pairwise (fun p q=>p.1≠q.1):=((sorted_perm _).pairwise_iff (fun {a b} (h:a.1≠b.1)=>h.symm)).2 hap;have hint:∀ p,p∈(es.toList.map (rg P k R)).foldr DataW.insert []->∃ x:Int,p.1=.int .i64 x/\(Lit.int .i64 x).wf=true:=fun p hp=>by obtain⟨key,hkey⟩:=hks p (mem_sorted.1 hp);obtain⟨x,_,h1,h2⟩:=Maps.keyOf_i64 hk hkey;exact⟨x,h1,h2⟩
 refine⟨perm_intKeys hP (fun p hp=>(hint p hp).imp fun _ h=>h.1) (zCH ks) (fun x=>?_),?_⟩
 ·rw[List.mem_eraseDups];constructor;{intro hx;exact has_true_of_atKey (y:=.lit (.bool true)) fun z=>by rw[hat x (hwf x hx) z,if_pos hx]}
  ·intro hx;refine Decidable.byContradiction fun hnx=>?_;have hw:(Lit.int .i64 x).wf=true:=by
    (rw[has_eq,List.any_eq_true] at hx;obtain⟨p,hp,hs⟩:=hx;obtain⟨y,hy,hyw⟩:=hint p hp;rw[hy] at hs;have:y=x:=by simpa[Lit.sameKey] using hs);rw[<-this];exact hyw
   (have:=has_false_of_atKey (D:=.map ((es.toList.map (rg P k R)).foldr DataW.insert [])) (k:=.int .i64 x) fun z=>by rw[hat x hw z,if_neg hnx]);rw[this] at hx;cases hx
 {show ((es.toList.map (rg P k R)).foldr DataW.insert []).length<=n;rw[(Go.WideShapes.sorted_perm _).length_eq];simpa using hn}
end Go.Proofs.YtaeaffgjdcigoaaGreat
namespace Go.Proofs.YtaeaffgjdcigoaaGreat
open Go Go.RowKit
set_option maxHeartbeats 4000000
set_option maxRecDepth 100000
theorem zIF (ks:List Int)(hl:ks.length<2^40)(hb:∀ z,z∈ks->-9223372036854775808<=z/\z<=9223372036854775807):Sound 56 [.fn 125 [.ptr 1000001 0]] [(1000000,.mp 119 (fun _=>ks)),(1000001,.box [.mpv 1000000])] [] (.sl (fun _=>(jV ks).map fun z=>[D.int .i64 z])) [(1000000,.mp 119 (fun _=>ks)),(1000001,.box [.mpv 1000000])] []:=by
 refine⟨fun vals w=>enters_of (P:=Pg) (by rw[uV];exact Tryz.func56) (by kernel_rfl) rfl vals w,?_⟩;intro w S β vals hS hO hsz hv;have hbo:=hO.at_ 1000001 _ (xN _ (xM ..));obtain⟨Bx,vs,T,b1,b2,b3,b4⟩:=hbo;have hmo:=hO.at_ 1000000 _ (xM ..);obtain⟨b,k,e,Dm,m1,⟨m2,m3,m4,m5⟩,m6,m7⟩:=hmo;have hBx:Bx<w.heap.size:=(hO.un 1000001 _ Bx (xN _ (xM ..)) (.inl b1)).2;have hr:=b4 0 (by decide);obtain⟨b',hb',hmv⟩:=nH hr;have ebb:b'=b:=by rw[m1] at hb';exact (vN hb').symm
 rw[ebb] at hmv;have hvv:=hv 0 (by decide);obtain⟨cvs,hf1,hf2,hf3⟩:=gM hvv;obtain⟨Bx',hβx,hpv⟩:=kC (hf3 0 (by decide));have exx:Bx'=Bx:=by rw[b1] at hβx;exact (vN hβx).symm
 rw[exx] at hpv;have hcv:cvs=#[.pointer (some ⟨Bx,0,none⟩)]:=by
  obtain⟨l⟩:=cvs
  match l,hf2,hpv with
  |[x],_,h=>simp at h;rw[h]
 have hvals:vals=#[.func (.func 125) #[] #[.pointer (some ⟨Bx,0,none⟩)]]:=by
  rw[hcv] at hf1;obtain⟨l⟩:=vals
  match l,hsz,hf1 with
  |[x],_,h=>simp at h;rw[h]
 have hcell:w.cell? ⟨Bx,0,none⟩=some (.map (some b)):=by
  obtain⟨l⟩:=vs
  match l,b3,hmv,b2 with
  |[x],_,h,h2=>simp at h;simp[World.cell?,h2,h]
 have ek:k=3:=by
  (have h1:Pg.underlying 119=some (.map 3 4):=by rw[uV];kernel_rfl);rw[h1] at m2
  cases m2;rfl
 rw[ek] at m3 m6;have hwf:∀ x,x∈ks->(Lit.int .i64 x).wf=true:=fun x hx=>by simp only[Lit.wf,yT,decide_eq_true_eq];exact hb x hx
 obtain⟨kp,kn'⟩:=zPS m3 m6 m7 hwf;have kn:Maps.size Dm<=ks.length:=kn';have hgo:Calls Pg 56 vals w fun e w'=>∃ (v:Value) (ss:List Int),e=.returned v/\ss.Perm (intKeys Dm) /\
   w'.ownsRow w.heap.size 3 1 v ss.length ((ss.mergeSort (fun x y=>decide (x<=y))).map encZ)/\(v=.slice none 0 0↔ss=[])/\Below w.heap.size w w':=by
  rw[hvals];rw[uV] at m6 ⊢;exact Tryz.sortedGo b ks.length Bx Dm _ w hBx hcell m6 (by unfold maxLen;omega) oM
 refine hgo.mono ?_;rintro e' w' ⟨v,ss,rfl,hp,hrow,hnil,hbl⟩;have hsort:ss.mergeSort (fun x y=>decide (x<=y))=jV ks:=mergeSort_of_perm_i (hp.trans kp.symm);have hlen:(jV ks).length=ss.length:=by rw[<-hsort,List.length_mergeSort]
 rw[hsort] at hrow;obtain⟨g,hgw,hg⟩:∃ g,w.heap.size<=g/\(0<ss.length->∃ cap cur,v=.slice (some ⟨g,0,none⟩) ss.length cap/\w'.heap[g]?=some (.cells cur 3 (0,0))/\ss.length<=cap/\cur.toList.take ss.length=(jV ks).map encZ):=by rcases hrow.2 with⟨h1,h2⟩|⟨g,cap,cur,r1,r2,r3,r4,r5,r6,r7⟩;{exact⟨w.heap.size,zZ _,fun h=>absurd h oM⟩};{exact⟨g,r2,fun _=>⟨cap,cur,r1,r3,r4,by rw[pD] at r7;exact r7⟩⟩}
 have hld:Leads w S uX w' (fun b i=>S b i\/(b=g/\i<ss.length)):=⟨hbl.size,hbl.os,hbl.tape,hbl.output,fun b hb _=>hbl.block b hb,
  fun b vs T h=>⟨vs,by rw[hbl.block b (Array.getElem?_eq_some_iff.1 h).1];exact h,rfl⟩,
  fun b i h=>by
   rcases h with h|⟨rfl,h⟩;{exact uI (hS b i h) hbl.size}
   ·obtain⟨cap,cur,_,h2,_⟩:=hg oM;exact (Array.getElem?_eq_some_iff.1 h2).1,
  fun b i _ h=>.inl h,fun b i hb _ h=>h.elim id (fun h=>absurd hb oM)⟩
 refine⟨v,_,β,rfl,⟨hld.size,hld.os,hld.tape,hld.output,fun b hb _=>hld.same b hb (fun h=>h),hld.shape,hld.bnd,hld.sub,fun b i hb _=>hld.old b i hb (fun h=>h)⟩,?_,hO.go hld hS,rfl,fun _ _ _=>rfl,fun n o b h h'=>.inr ⟨n,o,h,h'⟩⟩;refine .c rfl ?_;show RepD _ _ v (.sl ((jV ks).map fun z=>[D.int .i64 z]));by_cases h0:0<ss.length
 ·(obtain⟨cap,cur,r1,r3,r4,r7⟩:=hg h0;have hel:((jV ks).map fun z=>[D.int .i64 z]).length=ss.length:=by rw[xA,hlen]);rw[r1,<-hel]
  refine .sl (s:=1) (fun i _=>.int .i64 ((jV ks).getD i 0)) (fun h=>by rw[h] at hel;simp at hel;omega) oM (fun i j h1 h2=>.inr ⟨rfl,by omega⟩) (fun e he=>by obtain⟨z,_,rfl⟩:=y8.1 he;rfl) (fun i j h1 h2=>?_) (fun _ _ _ _=>rfl) (fun i j h1 h2=>?_)
  ·(have hj:j=0:=by omega);subst hj
   (have hi:i<ss.length:=by omega);have hcur:cur[i]?=some (.int .i64 ((jV ks).getD i 0)):=by have:=congrArg (fun l=>l[i]?) r7;simp only[jY hi,bR] at this;rw[qI (by omega:i<(jV ks).length)] at this;rw[<-Array.getElem?_toList,this,uJ,qI (by omega:i<(jV ks).length)];rfl
   simp[World.cell?,r3,hcur]
  ·(have hj:j=0:=by omega);subst hj
   (have hi:i<(jV ks).length:=by omega);have e1:((jV ks).map fun z=>[D.int .i64 z]).getD i []=[D.int .i64 ((jV ks).getD i 0)]:=by simp only[uJ,bR,qI hi];rfl
   rw[e1];exact .int _ _
 {have hz:ss=[]:=kR oM;have hk0:jV ks=[]:=kR (by rw[hlen,hz];rfl);rw[hk0,hnil.2 hz];exact .sl0 _ _}
end Go.Proofs.YtaeaffgjdcigoaaGreat
namespace Go.Proofs.YtaeaffgjdcigoaaGreat
open Go
abbrev Bd:=R×List (Row×Rat)
def inG (q:Qry) (up:Bool) (i:Int):Nat->List Dec->Bd->Bd
 |_,[],b=>b| k,d::r,b=>inG q up i (k+1) r (if d.k=(if up=true then 4 else 3)/\d.i=i/\d.fits q=true/\0<(if up=true then -1 else 1)*uD d.x.q b.1.q then (d.x,[(⟨4,k,0,0⟩,1)]) else b)
def Scp.inB (s:Scp) (i:Int) (up:Bool):Bd :=
 inG s.q up i 0 s.path (if up=true then ((s.q.r.hi[i.toNat]?).getD R0,[(⟨2,i,0,0⟩,1)]) else ((s.q.r.lo[i.toNat]?).getD R0,[(⟨1,i,0,0⟩,1)]))
def Scp.vLo (s:Scp) (j:Int):Rat:=qO s.lems (s.best j).1
def Scp.vHi (s:Scp) (j:Int):Rat:=qO s.lems (s.best j).2
def Scp.leB (s:Scp) (j:Int):Bd :=
 if (s.best j).1=0\/z4 (s.vLo j)<=0 then (R0,[(⟨5,j,0,0⟩,1)]) else (zJ (s.vLo j),[(⟨6,j,0,0⟩,1),(⟨11,j,(s.best j).1,0⟩,1)])
def Scp.offR (s:Scp) (j:Int):Row×Bool :=
 if s.dcd 2 j=true then (⟨10,j,0,0⟩,true) else (⟨10,j,0,(s.best j).2⟩,decide (0<(s.best j).2)&&decide (z4 (s.vHi j)<=0))
def Scp.onR (s:Scp) (j:Int):Row×Bool :=
 if s.dcd 1 j=true then (⟨8,j,0,0⟩,true) else (⟨8,j,(s.best j).1,0⟩,decide (0<(s.best j).1)&&decide (0<=z4 (s.vLo j)))
def Scp.moB (s:Scp) (j:Int):Option Bd :=
 if (s.offR j).2=true then some (R0,[((s.offR j).1,1)])
 else if (s.best j).2=0\/((s.onR j).2=false/\(s.best j).1=0) then none
 else if (s.onR j).2=true then some (zJ (s.vHi j),[((s.onR j).1,1),(⟨12,j,0,(s.best j).2⟩,1)])
 else some (zJ (s.vHi j),[(⟨12,j,0,(s.best j).2⟩,(1/(s.vHi j-s.vLo j))*s.vHi j),(⟨13,j,(s.best j).1,(s.best j).2⟩,1/(s.vHi j-s.vLo j))])
def Scp.ofB (s:Scp) (v:Int) (up:Bool):Option Bd :=
 if v<s.q.g.n then some (s.inB v up) else if up=true then s.moB (v-s.q.g.n) else some (s.leB (v-s.q.g.n))
def Scp.boxL (s:Scp):List (Int×Rat)->Rat->List (Row×Rat)->Option (Rat×List (Row×Rat))
 |[],a,l=>some (a,l)
 |t::r,a,l=>match s.ofB t.1 (decide (z4 t.2<0)) with
  |none=>none| some b=>s.boxL r (a+t.2*b.1.q) (xT l b.2 (vK t.2))
def Scp.box (s:Scp) (f:F):Option (Rat×List (Row×Rat)):=s.boxL f.ts f.c []
def lY (l u:Rat):Bool:=decide (z4 l<0)&&decide (0<z4 u)
def aM (l u:Rat):Bool:=lY l u&&decide (0<z4 (l+u))
def F.subst (f:F) (v:Int) (g:F):F:=F.add ⟨xF v (-(co f.ts v)) false f.ts,f.c⟩ (g.scale (co f.ts v))
def Scp.repl (s:Scp) (p:F) (c:Rat) (j:Int):Option (Row×F×Rat) :=
 if (s.onR j).2=true then some ((if 0<z4 c then ⟨6,j,0,0⟩ else (s.onR j).1),p,vK c)
 else if (s.offR j).2=true then some ((if z4 c<0 then (s.offR j).1 else ⟨5,j,0,0⟩),F.zero,vK c)
 else if 0<z4 c then
  (if 0<(s.best j).1/\0<(s.best j).2/\aM (s.vLo j) (s.vHi j)=true then some (⟨6,j,0,0⟩,p,vK c) else some (⟨5,j,0,0⟩,F.zero,vK c))
 else if (s.best j).1=0\/(s.best j).2=0 then none
 else some (⟨13,j,(s.best j).1,(s.best j).2⟩,(p.scale (s.vHi j/(s.vHi j-s.vLo j))).add (F.num (-(s.vLo j*s.vHi j)/(s.vHi j-s.vLo j))),vK c/(s.vHi j-s.vLo j))
def Scp.rep1 (s:Scp) (p:F) (j:Nat) (x:F×List (Row×Rat)):Option (F×List (Row×Rat)) :=
 if z4 (co x.1.ts (s.q.g.n+j))=0 then some x
 else match s.repl p (co x.1.ts (s.q.g.n+j)) j with
  |none=>none| some y=>some (x.1.subst (s.q.g.n+j) y.2.1,plMq x.2 y.1 y.2.2)
def Scp.backG (s:Scp):Nat->F×List (Row×Rat)->Option (F×List (Row×Rat))
 |0,x=>some x
 |j+1,x=>match s.q.g.us[j]? with
  |none=>none
  |some p=>match s.rep1 p.f j x with
   |none=>none| some y=>s.backG j y
def Scp.back (s:Scp) (f:F):Option (F×List (Row×Rat)):=s.backG s.q.g.us.length (f,[])
def oV (o:Option (Rat×List (Row×Rat))):Rat:=(o.map Prod.fst).getD 0
def oL (o:Option (Rat×List (Row×Rat))):List (Row×Rat):=(o.map Prod.snd).getD []
def Scp.low (s:Scp) (f:F):Option (Rat×List (Row×Rat)):=(s.back f).map fun g=>(oV (s.box g.1),xT g.2 (oL (s.box g.1)) 1)
def Scp.dom (s:Scp) (n:Nat) (f:F):Option (Rat×List (Row×Rat)) :=
 if n=0\/(n=2/\(s.box f).isSome=true/\((s.low f).isSome=false\/0<=uD (oV (s.box f)) (oV (s.low f)))) then s.box f else s.low f
def Scp.strg (s:Scp) (u:Int) (up:Bool) (x:Rat):Bool :=
 if up=true then decide ((s.best u).2=0\/uD x (s.vHi u)<0) else decide ((s.best u).1=0\/0<uD x (s.vLo u))
def runL (s:Scp) (u:Int) (up:Bool) (o:Option (Rat×List (Row×Rat))):List Lem :=
 match o with
 |none=>[]| some v=>if s.strg u up (if up=true then -v.1 else v.1)=true then [⟨u,up,zJ (if up=true then -v.1 else v.1),mR v.2⟩] else []
def runS (n:Nat) (s:Scp) (u:Int) (up:Bool) (f:F):Scp:=⟨s.q,s.path,s.lems++runL s u up (s.dom n f)⟩
def runG (n:Nat):List A->Nat->Scp->Scp
 |[],_,s=>s| p::r,j,s=>runG n r (j+1) (runS n (runS n s j false p.f) j true (p.f.scale (-1)))
def Scp.run (s:Scp) (n:Nat):Scp:=runG n s.q.g.us 0 s
def xC (raw:List UInt8):Nat:=(raw.map UInt8.toNat).sum
def ext (raw:List UInt8):Scp:=if 0<xC raw%3 then (fdS raw).bounded else fdS raw
def dvd (raw:List UInt8):Scp:=if xC raw%5<3 then (ext raw).run (xC raw%5) else ext raw
def Scp.opn (s:Scp) (j:Int):Bool:=!(s.dcd 1 j || (decide (0<(s.best j).1)&&decide (0<=z4 (s.vLo j)))) && !(s.dcd 2 j || (decide (0<(s.best j).2)&&decide (z4 (s.vHi j)<=0)))
def opnG (n:Nat):Nat->Nat->Scp->Scp
 |0,_,s=>s| k+1,j,s=>opnG n k (j+1) (if s.opn j=true/\(n+7*j)%4<2 then ⟨s.q,s.path++[⟨1+((n+7*j)%4:Nat),j,R0⟩],s.lems⟩ else s)
def s6 (f:A) (x:Rat):A:=if x<0 then ⟨f.ts,zJ (f.c.q-x)⟩ else f
def fH (raw:List UInt8):Scp :=
 let s1:=(dvd raw).run (xC raw%3)
 let s2:=opnG (xC raw) s1.q.g.us.length 0 s1
 if xC raw%2=0 then s2.run 1 else s2
def clsO (raw:List UInt8):Option (Rat×List (Row×Rat)):=(fH raw).dom 2 (fH raw).q.goal.f
def clo (raw:List UInt8):Scp:=⟨⟨(fH raw).q.g,(fH raw).q.r,s6 (fH raw).q.goal (oV (clsO raw))⟩,(fH raw).path,(fH raw).lems⟩
def cloL (raw:List UInt8):List (Row×Rat):=oL (clsO raw)
def Scp.fst (s:Scp) (kind unit:Int):Int:=uP (fun d=>decide (d.k=kind)&&(decide (d.i=unit)&&d.fits s.q)) s.path
def Scp.rowD (s:Scp) (r:Row):Int :=
 if r.k=4 then r.i else if (r.k=7\/r.k=8)/\r.lo=0 then s.fst 1 r.i else if (r.k=9\/r.k=10)/\r.hi=0 then s.fst 2 r.i else -1
def cY (d:Int) (D:List Int):List Int:=if 0<=d then d::D else D
abbrev Ust:=List Int×List Int
def Scp.pfn (s:Scp) (n:Int):List Mult:=((s.lems[n.toNat]?).map Lem.pf).getD []
def dC (s:Scp) (U:List Mult->Ust->Ust) (n:Int) (st:Ust):Ust:=if 0<=n/\n<s.lems.length/\n∉st.2 then U (s.pfn n) (st.1,n::st.2) else st
def useL (s:Scp) (U:List Mult->Ust->Ust):List Mult->Ust->Ust
 |[],st=>st| m::r,st=>useL s U r (dC s U (m.row.hi-1) (dC s U (m.row.lo-1) (cY (s.rowD m.row) st.1,st.2)))
def sK (s:Scp):Nat->List Mult->Ust->Ust
 |0=>useL s (fun _ st=>st)| f+1=>useL s (sK s f)
def um (s:Scp) (M:List Int):Nat:=((List.range s.lems.length).filter fun n:Nat=>decide ((n:Int)∉M)).length
theorem zIT {s : Scp} {M : List Int} {n : Int} (h0 : 0 ≤ n) (h1 : n < s.lems.length) (h : n ∉ M) : um s (n :: M) + 1 = um s M := by
  unfold um
  obtain ⟨k, rfl⟩ : ∃ k : Nat, n = k := ⟨n.toNat, by omega⟩
  have hk : k < s.lems.length := by omega
  have key : ∀ (l : List Nat), l.Nodup → k ∈ l → (l.filter fun x : Nat => decide ((x : Int) ∉ (k : Int) :: M)).length + 1 = (l.filter fun x : Nat => decide ((x : Int) ∉ M)).length := by
    intro l
    induction l with
    | nil => intro _ h; exact absurd h (by simp)
    | cons a r ih =>
      intro hn hm
      obtain ⟨g1, g2⟩ := zC3.1 hn
      rcases yI.1 hm with rfl | hm
      · have e : (r.filter fun x : Nat => decide ((x : Int) ∉ (k : Int) :: M)) = r.filter fun x : Nat => decide ((x : Int) ∉ M) := List.filter_congr fun x hx => by
          have : (x : Int) ≠ (k : Int) := fun e => g1 (by have : x = k := by omega
                                                          rw [← this]; exact hx)
          simp [this]
        rw [zB7 (by simp), zB6 (by simpa using h), e]
        simp
      · have ha : (a : Int) ≠ (k : Int) := fun e => g1 (by have : a = k := by omega
                                                           rw [this]; exact hm)
        have := ih g2 hm
        by_cases hc : (a : Int) ∈ M
        · rw [zB7 (by simp [hc]), zB7 (by simp [hc])]; exact this
        · rw [zB6 (by simp [hc, ha]), zB6 (by simp [hc])]
          simp only [kI]; omega
  exact key _ List.nodup_range (zC1.2 hk)
def usesM (s:Scp) (l:List Mult) (n:Int):Prop:=0<=n/\n<s.lems.length/\∃ m,m∈l/\(m.row.lo-1=n\/m.row.hi-1=n)
def usesD (s:Scp) (l:List Mult) (k:Int):Prop:=0<=k/\∃ m,m∈l/\s.rowD m.row=k
inductive Reach (s:Scp) (l:List Mult):Int->Prop
 |base {n} (h:usesM s l n):Reach s l n
 |step {k n} (h:Reach s l k) (h2:usesM s (s.pfn k) n):Reach s l n
def bL (s:Scp) (l:List Mult) (k:Int):Prop:=usesD s l k\/∃ n,Reach s l n/\usesD s (s.pfn n) k
theorem usesM.sub {s:Scp}{l l':List Mult}{n:Int}(h:usesM s l n)(hs:∀ m,m∈l->m∈l'):usesM s l' n:=by obtain⟨h1,h2,m,h3,h4⟩:=h;exact⟨h1,h2,m,hs m h3,h4⟩
theorem usesD.sub {s:Scp}{l l':List Mult}{n:Int}(h:usesD s l n)(hs:∀ m,m∈l->m∈l'):usesD s l' n:=by obtain⟨h1,m,h3,h4⟩:=h;exact⟨h1,m,hs m h3,h4⟩
theorem Reach.sub {s:Scp}{l l':List Mult}{n:Int}(h:Reach s l n)(hs:∀ m,m∈l->m∈l'):Reach s l' n:=by
 induction h with
 |base h=>exact .base (h.sub hs)| step _ h2 ih=>exact .step ih h2
theorem Reach.thru {s:Scp}{l:List Mult}{k n:Int}(hk:Reach s l k)(h:Reach s (s.pfn k) n):Reach s l n:=by
 induction h with
 |base h=>exact .step hk h| step _ h2 ih=>exact .step ih h2
theorem Reach.rng {s:Scp}{l:List Mult}{n:Int}(h:Reach s l n):0<=n/\n<s.lems.length:=by
 cases h with
 |base h=>exact⟨h.1,h.2.1⟩| step _ h=>exact⟨h.1,h.2.1⟩
structure Run (s:Scp) (l:List Mult) (a b:Ust):Prop where
 mM:∀ n,n∈a.2->n∈b.2
 mD:∀ k,k∈a.1->k∈b.1
 sM:∀ n,n∈b.2->n∈a.2\/Reach s l n
 sD:∀ k,k∈b.1->k∈a.1\/bL s l k
 cM:∀ n,usesM s l n->n∈b.2
 cD:∀ k,usesD s l k->k∈b.1
 nM:∀ k,k∈b.2->k∈a.2\/((∀ n,usesM s (s.pfn k) n->n∈b.2)/\∀ n,usesD s (s.pfn k) n->n∈b.1)
theorem mK {s:Scp}{U:List Mult->Ust->Ust}{f:Nat}(hU:∀ l a,um s a.2<f->Run s l a (U l a)){n:Int}{a:Ust}(hf:um s a.2<=f):(∀ k,k∈a.2->k∈(dC s U n a).2)/\(∀ k,k∈a.1->k∈(dC s U n a).1)/\(0<=n->n<s.lems.length->n∈(dC s U n a).2) /\ (∀ k,k∈(dC s U n a).2->k∈a.2\/(0<=n/\n<s.lems.length/\(k=n\/Reach s (s.pfn n) k)))/\(∀ k,k∈(dC s U n a).1->k∈a.1\/(0<=n/\n<s.lems.length/\bL s (s.pfn n) k)) /\ (∀ k,k∈(dC s U n a).2->k∈a.2\/((∀ j,usesM s (s.pfn k) j->j∈(dC s U n a).2)/\∀ j,usesD s (s.pfn k) j->j∈(dC s U n a).1)):=by unfold dC;split;{rename_i h;obtain⟨h0,h1,h2⟩:=h;have hu:=zIT h0 h1 h2;have R:=hU (s.pfn n) (a.1,n::a.2) (by show um s (n::a.2)<f;omega);refine⟨fun k hk=>R.mM k (xN _ hk),fun k hk=>R.mD k hk,fun _ _=>R.mM n xM,fun k hk=>?_,fun k hk=>?_,fun k hk=>?_⟩;{rcases R.sM k hk with g|g;{rcases yI.1 g with g|g;{exact .inr ⟨h0,h1,.inl g⟩};{exact .inl g}};{exact .inr ⟨h0,h1,.inr g⟩}};{rcases R.sD k hk with g|g;{exact .inl g};{exact .inr ⟨h0,h1,g⟩}};{rcases R.nM k hk with g|g;{rcases yI.1 g with rfl|g;{exact .inr ⟨R.cM,R.cD⟩};{exact .inl g}};{exact .inr g}}};{rename_i h;exact⟨fun _ h=>h,fun _ h=>h,fun g1 g2=>Classical.byContradiction fun g3=>h ⟨g1,g2,g3⟩,fun _ h=>.inl h,fun _ h=>.inl h,fun _ h=>.inl h⟩}
theorem eI {s:Scp}{M M':List Int}(h:∀ n,n∈M->n∈M'):um s M'<=um s M:=by unfold um;rw[<-List.countP_eq_length_filter,<-List.countP_eq_length_filter];exact List.countP_mono_left fun x _ hx=>by simp only[decide_eq_true_eq] at hx ⊢;exact fun g=>hx (h _ g)
theorem zDO {s:Scp}{U:List Mult->Ust->Ust}{f:Nat}(hU:∀ l a,um s a.2<f->Run s l a (U l a)):∀ (l:List Mult) (a:Ust),um s a.2<=f->Run s l a (useL s U l a)
 |[],a,_=>⟨fun _ h=>h,fun _ h=>h,fun _ h=>.inl h,fun _ h=>.inl h,fun n h=>by obtain⟨_,_,m,h,_⟩:=h;exact absurd h (by simp),fun n h=>by obtain⟨_,m,h,_⟩:=h;exact absurd h (by simp),fun _ h=>.inl h⟩| m::r,a,hf=>by
  (unfold useL;obtain⟨b,hb⟩:∃ b:Ust,b=(cY (s.rowD m.row) a.1,a.2):=⟨_,rfl⟩;have b1:∀ k,k∈a.1->k∈b.1:=fun k hk=>by rw[hb];unfold cY;split <;> simp[hk]);have b2:b.2=a.2:=by rw[hb]
  have b3:∀ k,k∈b.1->k∈a.1\/(0<=k/\s.rowD m.row=k):=fun k hk=>by rw[hb] at hk;unfold cY at hk;split at hk;{rename_i g;rcases yI.1 hk with rfl|hk;{exact .inr ⟨g,rfl⟩};{exact .inl hk}};{exact .inl hk}
  (have b4:0<=s.rowD m.row->s.rowD m.row∈b.1:=fun h=>by rw[hb];unfold cY;rw[if_pos h];exact xM);rw[<-hb]
  (obtain⟨c,hc⟩:∃ c,dC s U (m.row.lo-1) b=c:=⟨_,rfl⟩;obtain⟨c1,c2,c3,c4,c5,c6⟩:=mK hU (n:=m.row.lo-1) (a:=b) (by rw[b2];exact hf);rw[hc] at c1 c2 c3 c4 c5 c6 ⊢;obtain⟨d,hd⟩:∃ d,dC s U (m.row.hi-1) c=d:=⟨_,rfl⟩;have ucb:um s c.2<=f:=vD (eI fun n hn=>c1 n (by rw[b2];exact hn)) hf;obtain⟨d1,d2,d3,d4,d5,d6⟩:=mK hU (n:=m.row.hi-1) (a:=c) ucb;rw[hd] at d1 d2 d3 d4 d5 d6 ⊢;have R:=zDO hU r d (vD (eI d1) ucb);have rb:∀ {n},Reach s r n->Reach s (m::r) n:=fun h=>h.sub fun x hx=>xN _ hx;have rbD:∀ {n},bL s r n->bL s (m::r) n:=fun h=>by rcases h with h|⟨k,h1,h2⟩;{exact .inl (h.sub fun x hx=>xN _ hx)};{exact .inr ⟨k,rb h1,h2⟩});have lo:0<=m.row.lo-1->m.row.lo-1<s.lems.length->Reach s (m::r) (m.row.lo-1):=fun h1 h2=>.base ⟨h1,h2,m,xM,.inl rfl⟩;have hi:0<=m.row.hi-1->m.row.hi-1<s.lems.length->Reach s (m::r) (m.row.hi-1):=fun h1 h2=>.base ⟨h1,h2,m,xM,.inr rfl⟩;have thD:∀ {k n},Reach s (m::r) k->bL s (s.pfn k) n->bL s (m::r) n:=fun h g=>by rcases g with g|⟨j,g1,g2⟩;{exact .inr ⟨_,h,g⟩};{exact .inr ⟨j,h.thru g1,g2⟩}
  refine⟨fun n hn=>R.mM n (d1 n (c1 n (by rw[b2];exact hn))),fun k hk=>R.mD k (d2 k (c2 k (b1 k hk))),fun n hn=>?_,fun k hk=>?_,fun n hn=>?_,fun k hk=>?_,fun k hk=>?_⟩;{rcases R.sM n hn with g|g;{rcases d4 n g with g|⟨g1,g2,g3⟩;{rcases c4 n g with g|⟨g1,g2,g3⟩;{exact .inl (by rw[<-b2];exact g)};{rcases g3 with rfl|g3;{exact .inr (lo g1 g2)};{exact .inr ((lo g1 g2).thru g3)}}};{rcases g3 with rfl|g3;{exact .inr (hi g1 g2)};{exact .inr ((hi g1 g2).thru g3)}}};{exact .inr (rb g)}};{rcases R.sD k hk with g|g;{rcases d5 k g with g|⟨g1,g2,g3⟩;{rcases c5 k g with g|⟨g1,g2,g3⟩;{rcases b3 k g with g|⟨g1,g2⟩;{exact .inl g};{exact .inr (.inl ⟨g1,m,xM,g2⟩)}};{exact .inr (thD (lo g1 g2) g3)}};{exact .inr (thD (hi g1 g2) g3)}};{exact .inr (rbD g)}};{obtain⟨g1,g2,x,g3,g4⟩:=hn;rcases yI.1 g3 with rfl|g3;{rcases g4 with rfl|rfl;{exact R.mM _ (d1 _ (c3 g1 g2))};{exact R.mM _ (d3 g1 g2)}};{exact R.cM n ⟨g1,g2,x,g3,g4⟩}};{obtain⟨g1,x,g3,g4⟩:=hk;rcases yI.1 g3 with rfl|g3;{subst g4;exact R.mD _ (d2 _ (c2 _ (b4 g1)))};{exact R.cD k ⟨g1,x,g3,g4⟩}};{rcases R.nM k hk with g|g;{rcases d6 k g with g|g;{rcases c6 k g with g|g;{exact .inl (by rw[<-b2];exact g)};{exact .inr ⟨fun j hj=>R.mM j (d1 j (g.1 j hj)),fun j hj=>R.mD j (d2 j (g.2 j hj))⟩}};{exact .inr ⟨fun j hj=>R.mM j (g.1 j hj),fun j hj=>R.mD j (g.2 j hj)⟩}};{exact .inr g}}
theorem tN (s:Scp):∀ (f:Nat) (l:List Mult) (a:Ust),um s a.2<=f->Run s l a (sK s f l a)
 |0,l,a,h=>zDO (f:=0) (fun _ _ h=>absurd h oM) l a h| f+1,l,a,h=>zDO (f:=f+1) (fun l a h=>tN s f l a oM) l a h
theorem zJL {s:Scp}{l:List Mult}:(∀ n,n∈(sK s s.lems.length l ([],[])).2↔Reach s l n)/\∀ k,k∈(sK s s.lems.length l ([],[])).1↔bL s l k:=by
 have R:=tN s s.lems.length l ([],[]) (by unfold um;exact vD (List.length_filter_le _ _) (by simp));have hM:∀ n,Reach s l n->n∈(sK s s.lems.length l ([],[])).2:=fun n h=>by
  induction h with
  |base h=>exact R.cM _ h| step _ h2 ih =>
   rcases R.nM _ ih with g|g;{exact absurd g (by simp)};{exact g.1 _ h2}
 refine⟨fun n=>⟨fun h=>(R.sM n h).resolve_left (by simp),hM n⟩,fun k=>⟨fun h=>(R.sD k h).resolve_left (by simp),fun h=>?_⟩⟩;rcases h with h|⟨n,h1,h2⟩;{exact R.cD k h};{rcases R.nM _ (hM n h1) with g|g;{exact absurd g (by simp)};{exact g.2 _ h2}}
def kN (l:List Bool) (k:Int):List Bool:=if 0<=k/\k<l.length then l.set k.toNat true else l
abbrev Mst:=List Bool×List Bool
def sX (s:Scp):List Mult->Mst->Mst
 |[],st=>st| m::r,st=>sX s r (kN st.1 (s.rowD m.row),kN (kN st.2 (m.row.lo-1)) (m.row.hi-1))
def mI (s:Scp):Nat->Mst->Mst
 |0,st=>st| n+1,st=>mI s n (if st.2.getD n false=true then sX s (s.pfn n) st else st)
def Scp.marks (s:Scp) (l:List Mult):Mst:=mI s s.lems.length (sX s l (List.replicate s.path.length false,List.replicate s.lems.length false))
theorem kM (l:List Bool)(k:Int):(kN l k).length=l.length:=by unfold kN;split <;> simp
theorem zDX {l:List Bool}{k:Int}{j:Nat}(hj:j<l.length):(kN l k).getD j false=true↔l.getD j false=true\/k=j:=by
 unfold kN;split
 ·rename_i h;rw[uJ,uJ,List.getElem?_set];by_cases e:k.toNat=j
  ·(have:k=j:=by omega);simp[e,hj,this]
  ·(have:k≠j:=by omega);simp[e,this]
 ·(rename_i h;have:k≠j:=by omega);simp[this]
theorem nR (s:Scp):∀ (l:List Mult) (st:Mst),(sX s l st).1.length=st.1.length/\(sX s l st).2.length=st.2.length
 |[],st=>⟨rfl,rfl⟩| m::r,st=>by have:=nR s r (kN st.1 (s.rowD m.row),kN (kN st.2 (m.row.lo-1)) (m.row.hi-1));unfold sX;rw[this.1,this.2];exact⟨kM _ _,by rw[kM,kM]⟩
theorem zAL (s:Scp):∀ (l:List Mult) (st:Mst),(∀ j,j<st.1.length->((sX s l st).1.getD j false=true↔st.1.getD j false=true\/usesD s l j)) /\ (st.2.length=s.lems.length->∀ j,j<st.2.length->((sX s l st).2.getD j false=true↔st.2.getD j false=true\/usesM s l j))
 |[],st=>⟨fun j _=>⟨.inl,fun h=>h.elim id fun⟨_,m,h,_⟩=>absurd h (by simp)⟩,fun _ j _=>⟨.inl,fun h=>h.elim id fun⟨_,_,m,h,_⟩=>absurd h (by simp)⟩⟩| m::r,st=>by obtain⟨h1,h2⟩:=zAL s r (kN st.1 (s.rowD m.row),kN (kN st.2 (m.row.lo-1)) (m.row.hi-1));unfold sX;constructor;{intro j hj;rw[h1 j (by rw[kM];exact hj),zDX hj];constructor;{rintro ((h|h)|⟨h0,x,hx,he⟩);{exact .inl h};{exact .inr ⟨by omega,m,xM,h⟩};{exact .inr ⟨h0,x,xN _ hx,he⟩}};{rintro (h|⟨h0,x,hx,he⟩);{exact .inl (.inl h)};{rcases yI.1 hx with rfl|hx;{exact .inl (.inr he)};{exact .inr ⟨h0,x,hx,he⟩}}}};{intro hl j hj;rw[h2 (by rw[kM,kM];exact hl) j (by rw[kM,kM];exact hj),zDX (by rw[kM];exact hj),zDX hj];constructor;{rintro (((h|h)|h)|⟨h0,h0',x,hx,he⟩);{exact .inl h};{exact .inr ⟨by omega,by omega,m,xM,.inl h⟩};{exact .inr ⟨by omega,by omega,m,xM,.inr h⟩};{exact .inr ⟨h0,h0',x,xN _ hx,he⟩}};{rintro (h|⟨h0,h0',x,hx,he⟩);{exact .inl (.inl (.inl h))};{rcases yI.1 hx with rfl|hx;{rcases he with he|he;{exact .inl (.inl (.inr he))};{exact .inl (.inr he)}};{exact .inr ⟨h0,h0',x,hx,he⟩}}}}
def Scp.backs (s:Scp):Prop:=∀ (n:Nat) m,s.lems[n]?=some m->∀ x,x∈m.pf->x.row.lo<=n/\x.row.hi<=n
theorem zL4 {s:Scp}(h:s.backs){k n:Int}(hk:0<=k)(hu:usesM s (s.pfn k) n):n<k:=by
 obtain⟨_,_,m,hm,he⟩:=hu;unfold Scp.pfn at hm;cases hx:s.lems[k.toNat]? with
 |none=>rw[hx] at hm;exact absurd hm (by simp)| some y =>
  rw[hx] at hm;have:=h k.toNat y hx m hm;omega
theorem mH {s:Scp}(hb:s.backs){l:List Mult}:∀ (n:Nat) (st:Mst),n<=s.lems.length->st.1.length=s.path.length->st.2.length=s.lems.length ->(∀ j:Nat,j<s.lems.length->st.2.getD j false=true->Reach s l j)->(∀ j:Nat,j<s.path.length->st.1.getD j false=true->bL s l j) ->(∀ j:Nat,j<s.lems.length->usesM s l j->st.2.getD j false=true)->(∀ j:Nat,j<s.path.length->usesD s l j->st.1.getD j false=true) ->(∀ k:Nat,n<=k->k<s.lems.length->st.2.getD k false=true->(∀ j:Nat,usesM s (s.pfn k) j->st.2.getD j false=true)/\∀ j:Nat,j<s.path.length->usesD s (s.pfn k) j->st.1.getD j false=true) ->(mI s n st).1.length=s.path.length/\(mI s n st).2.length=s.lems.length/\(∀ j:Nat,j<s.lems.length->((mI s n st).2.getD j false=true↔Reach s l j))/\∀ j:Nat,j<s.path.length->((mI s n st).1.getD j false=true↔bL s l j)
 |0,st,hn,l1,l2,a1,a2,a3,a4,a5=>by
  have hM:∀ z:Int,Reach s l z->∀ j:Nat,z=j->j<s.lems.length->st.2.getD j false=true:=fun z h=>by
   induction h with
   |base h=>intro j e hj;subst e;exact a3 j hj h| step hk h2 ih =>
    intro j e hj;subst e;obtain⟨g1,g2⟩:=hk.rng;rename_i k;obtain⟨k',rfl⟩:∃ k':Nat,k=k':=⟨k.toNat,by omega⟩;exact (a5 k' (xD _) oM (ih k' rfl oM)).1 j h2
  refine⟨l1,l2,fun j hj=>⟨a1 j hj,fun h=>hM _ h j rfl hj⟩,fun j hj=>⟨a2 j hj,fun h=>?_⟩⟩;rcases h with h|⟨k,h1,h2⟩;{exact a4 j hj h};{obtain⟨g1,g2⟩:=h1.rng;obtain⟨k',rfl⟩:∃ k':Nat,k=k':=⟨k.toNat,by omega⟩;exact (a5 k' (xD _) oM (hM _ h1 k' rfl oM)).2 j hj h2}
 |n+1,st,hn,l1,l2,a1,a2,a3,a4,a5=>by
  unfold mI;by_cases hm:st.2.getD n false=true
  ·rw[if_pos hm];obtain⟨g1,g2⟩:=zAL s (s.pfn n) st;obtain⟨k1,k2⟩:=nR s (s.pfn n) st;have g2:=g2 l2;have hr:=a1 n oM hm;refine mH hb n _ oM (by rw[k1,l1]) (by rw[k2,l2]) (fun j hj h=>?_) (fun j hj h=>?_) (fun j hj h=>?_) (fun j hj h=>?_) (fun k hk hk2 h=>?_);{rcases (g2 j oM).1 h with h|h;{exact a1 j hj h};{exact .step hr h}};{rcases (g1 j oM).1 h with h|h;{exact a2 j hj h};{exact .inr ⟨n,hr,h⟩}};{exact (g2 j oM).2 (.inl (a3 j hj h))};{exact (g1 j oM).2 (.inl (a4 j hj h))}
   ·by_cases e:k=n;{subst e;exact⟨fun j hj=>(g2 j (by have:=hj.2.1;omega)).2 (.inr hj),fun j hj hu=>(g1 j oM).2 (.inr hu)⟩}
    ·(have hkm:st.2.getD k false=true:=by rcases (g2 k oM).1 h with h|h;{exact h};{have:=zL4 hb oM h;omega});obtain⟨q1,q2⟩:=a5 k oM hk2 hkm;exact⟨fun j hj=>(g2 j (by have:=hj.2.1;omega)).2 (.inl (q1 j hj)),fun j hj hu=>(g1 j oM).2 (.inl (q2 j hj hu))⟩
  {rw[if_neg hm];exact mH hb n st oM l1 l2 a1 a2 a3 a4 fun k hk hk2 h=>by by_cases e:k=n;{subst e;exact absurd h hm};{exact a5 k oM hk2 h}}
theorem zCL {s:Scp}(hb:s.backs)(l:List Mult):(s.marks l).1.length=s.path.length/\(s.marks l).2.length=s.lems.length/\(∀ j:Nat,j<s.lems.length->((s.marks l).2.getD j false=true↔Reach s l j))/\∀ j:Nat,j<s.path.length->((s.marks l).1.getD j false=true↔bL s l j):=by
 have rep:∀ (n j:Nat),¬((List.replicate n false).getD j false=true):=fun n j=>by rw[uJ,List.getElem?_replicate];split <;> simp
 obtain⟨g1,g2⟩:=zAL s l (List.replicate s.path.length false,List.replicate s.lems.length false);obtain⟨k1,k2⟩:=nR s l (List.replicate s.path.length false,List.replicate s.lems.length false);simp only[List.length_replicate] at g1 g2 k1 k2;have g2:=g2 trivial;exact mH hb _ _ (zZ _) k1 k2 (fun j hj h=>.base (((g2 j hj).1 h).resolve_left (rep _ _))) (fun j hj h=>.inl (((g1 j hj).1 h).resolve_left (rep _ _))) (fun j hj h=>(g2 j hj).2 (.inr h)) (fun j hj h=>(g1 j hj).2 (.inr h)) (fun k h1 h2=>absurd h1 oM)
def uY (l:List Bool):List Int:=((List.range l.length).filter fun i=>l.getD i false).map fun i:Nat=>(i:Int)
theorem zKB {l:List Bool}{z:Int}:z∈uY l↔∃ j:Nat,z=j/\j<l.length/\l.getD j false=true:=by unfold uY;simp only[y8,List.mem_filter,zC1];constructor;{rintro⟨j,⟨h1,h2⟩,rfl⟩;exact⟨j,rfl,h1,h2⟩};{rintro⟨j,rfl,h1,h2⟩;exact⟨j,⟨h1,h2⟩,rfl⟩}
theorem zOO (l:List Bool):(uY l).Pairwise (·<·):=by unfold uY;refine List.pairwise_map.2 ((List.pairwise_lt_range.filter _).imp fun {a b} h=>by omega)
theorem zUG {s:Scp}(hb:s.backs){l:List Mult}(hd:∀ k,bL s l k->k<s.path.length):jV (sK s s.lems.length l ([],[])).1=uY (s.marks l).1/\jV (sK s s.lems.length l ([],[])).2=uY (s.marks l).2:=by
 obtain⟨m1,m2,m3,m4⟩:=zCL hb l;obtain⟨u1,u2⟩:=zJL (s:=s) (l:=l);refine⟨zJO (fun x=>?_) (zOO _),zJO (fun x=>?_) (zOO _)⟩
 ·rw[u2,zKB];constructor
  ·(intro h;have h0:0<=x:=by rcases h with h|⟨_,_,h⟩;{exact h.1};{exact h.1});have:=hd x h;exact⟨x.toNat,by omega,by omega,(m4 x.toNat oM).2 (by rw[show ((x.toNat:Nat):Int)=x by omega];exact h)⟩
  {rintro⟨j,rfl,h1,h2⟩;exact (m4 j oM).1 h2}
 {rw[u1,zKB];constructor;{intro h;obtain⟨g1,g2⟩:=h.rng;exact⟨x.toNat,by omega,by omega,(m3 x.toNat oM).2 (by rw[show ((x.toNat:Nat):Int)=x by omega];exact h)⟩};{rintro⟨j,rfl,h1,h2⟩;exact (m3 j oM).1 h2}}
def pot (s:Scp) (M:List Int):Nat:=(((List.range s.lems.length).filter fun n:Nat=>decide ((n:Int)∉M)).map fun n:Nat=>(s.pfn n).length).sum
theorem zN6 {s : Scp} {M : List Int} {n : Int} (h0 : 0 ≤ n) (h1 : n < s.lems.length) (h : n ∉ M) : pot s (n :: M) + (s.pfn n).length = pot s M := by
  unfold pot
  obtain ⟨k, rfl⟩ : ∃ k : Nat, n = k := ⟨n.toNat, by omega⟩
  have hk : k < s.lems.length := by omega
  have key : ∀ (l : List Nat), l.Nodup → k ∈ l → ((l.filter fun x : Nat => decide ((x : Int) ∉ (k : Int) :: M)).map fun n : Nat => (s.pfn n).length).sum + (s.pfn k).length = ((l.filter fun x : Nat => decide ((x : Int) ∉ M)).map fun n : Nat => (s.pfn n).length).sum := by
    intro l
    induction l with
    | nil => intro _ h; exact absurd h (by simp)
    | cons a r ih =>
      intro hn hm
      obtain ⟨g1, g2⟩ := zC3.1 hn
      rcases yI.1 hm with rfl | hm
      · have e : (r.filter fun x : Nat => decide ((x : Int) ∉ (k : Int) :: M)) = r.filter fun x : Nat => decide ((x : Int) ∉ M) := List.filter_congr fun x hx => by
          have : (x : Int) ≠ (k : Int) := fun e => g1 (by have : x = k := by omega
                                                          rw [← this]; exact hx)
          simp [this]
        rw [zB7 (by simp), zB6 (by simpa using h), e, kA, List.sum_cons]
        omega
      · have ha : (a : Int) ≠ (k : Int) := fun e => g1 (by have : a = k := by omega
                                                           rw [this]; exact hm)
        have := ih g2 hm
        by_cases hc : (a : Int) ∈ M
        · rw [zB7 (by simp [hc]), zB7 (by simp [hc])]; exact this
        · rw [zB6 (by simp [hc, ha]), zB6 (by simp [hc]), kA, kA, List.sum_cons, List.sum_cons]
          omega
  exact key _ List.nodup_range (zC1.2 hk)
def wgt (s:Scp) (st:Ust):Nat:=st.1.length+pot s st.2
theorem oP {s:Scp}{U:List Mult->Ust->Ust}{f:Nat}(hU:∀ l a,um s a.2<f->wgt s (U l a)<=wgt s a+l.length){n:Int}{a:Ust}(hf:um s a.2<=f):wgt s (dC s U n a)<=wgt s a:=by unfold dC;split;{rename_i h;obtain⟨h0,h1,h2⟩:=h;have hu:=zIT h0 h1 h2;have hp:=zN6 h0 h1 h2;have:=hU (s.pfn n) (a.1,n::a.2) (by show um s (n::a.2)<f;omega);have e1:wgt s (a.1,n::a.2)=a.1.length+pot s (n::a.2):=rfl;have e2:wgt s a=a.1.length+pot s a.2:=rfl;omega};{exact zZ _}
theorem zKN (d:Int)(D:List Int):(cY d D).length<=D.length+1:=by unfold cY;split <;> simp
theorem zDM {s:Scp}{U:List Mult->Ust->Ust}{f:Nat}(hR:∀ l a,um s a.2<f->Run s l a (U l a))(hU:∀ l a,um s a.2<f->wgt s (U l a)<=wgt s a+l.length):∀ (l:List Mult) (a:Ust),um s a.2<=f->wgt s (useL s U l a)<=wgt s a+l.length
 |[],a,_=>zZ _| m::r,a,hf=>by
  (unfold useL;have hb:wgt s (cY (s.rowD m.row) a.1,a.2)<=wgt s a+1:=by have:=zKN (s.rowD m.row) a.1;show (cY _ _).length+pot s a.2<=a.1.length+pot s a.2+1;omega);have h1:=oP hU (n:=m.row.lo-1) (a:=(cY (s.rowD m.row) a.1,a.2)) hf;have c1:=(mK hR (n:=m.row.lo-1) (a:=(cY (s.rowD m.row) a.1,a.2)) hf).1;generalize dC s U (m.row.lo-1) (cY (s.rowD m.row) a.1,a.2)=c at *
  have ucb:um s c.2<=f:=vD (eI fun n hn=>c1 n hn) hf;have h2:=oP hU (n:=m.row.hi-1) (a:=c) ucb;have d1:=(mK hR (n:=m.row.hi-1) (a:=c) ucb).1;generalize dC s U (m.row.hi-1) c=d at *
  have h3:=zDM hR hU r d (vD (eI d1) ucb);rw[kI];omega
theorem zDP (s:Scp):∀ (f:Nat) (l:List Mult) (a:Ust),um s a.2<=f->wgt s (sK s f l a)<=wgt s a+l.length
 |0,l,a,h=>zDM (f:=0) (fun _ _ h=>absurd h oM) (fun _ _ h=>absurd h oM) l a h| f+1,l,a,h=>zDM (f:=f+1) (fun l a h=>tN s f l a oM) (fun l a h=>zDP s f l a oM) l a h
end Go.Proofs.YtaeaffgjdcigoaaGreat
