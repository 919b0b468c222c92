/- A part of the proof: BrE, SzB, SzC, SzD, SzE, LsA, WrA, WrB, WrC, WrD, WsA, WsB, WsC, WsD, WsE, WsF, WsG, WtA, WtB, SyR. -/
import Derived.Test.YtboocdbmnfjomaaGreatV26
import Derived.Test.YtboocdbmnfjomaaGreatV36
import Derived.Test.YtboocdbmnfjomaaGreatV32
import Derived.Test.YtboocdbmnfjomaaGreatV27
set_option linter.all false
namespace Go.Proofs.YtboocdbmnfjomaaGreat
open Go
set_option maxRecDepth 100000
set_option maxHeartbeats 4000000
theorem BQ {H:Type}(d:DataW H):1<=Rows.uptoBulk d:=by
 cases d with
 |lit l=>cases l <;> simp[Rows.uptoBulk]
 |_=>simp[Rows.uptoBulk]
theorem ZQ {H:Type}{d:DataW H}:∀ {l:List (DataW H)},d∈l->Rows.uptoBulk d<=Rows.uptoBulkAll l
 |[],h=>absurd h (by simp)| x::r,h=>by simp only[Rows.uptoBulkAll];rcases yS.1 h with e|e;{subst e;omega};{have:=ZQ e;omega}
theorem Jf {H:Type}:∀ (l:List (DataW H)),l.length<=Rows.uptoBulkAll l
 |[]=>xO _| x::r=>by have:=BQ x;have:=Jf r;simp only[Rows.uptoBulkAll,fH];omega
structure ElB (w:World) (t:TypeId) (k:Nat) {α:Type} (G:α->Nat->Prop) (p:α->List PV):Prop where
 sz:Tryz.prog.cellsOf t=k
 up:∀ a n m,n<=m->G a n->G a m
 rd:∀ {H:Type} {enc:TypeId×Value->H} {sp:Nat->Bool} {n:Nat} {cs:List Value} {x:DataW H×List MemPlace},DataW.trod enc Tryz.prog w 0 sp true n t cs=some x->∃ a,G a (Rows.uptoBulk x.1)/\Cs w cs (y7 (p a))
theorem ElB.map {w t k}{α β:Type}{G:α->Nat->Prop}{p:α->List PV}{G':β->Nat->Prop}{p':β->List PV}(h:ElB w t k G p)(f:α->β)(hp:∀ a,y7 (p' (f a))=y7 (p a))(hG:∀ a n,G a n->G' (f a) n)(hu:∀ a n m,n<=m->G' a n->G' a m):ElB w t k G' p' :=
 ⟨h.sz,hu,λhx=>by obtain⟨a,h1,h2⟩:=h.rd hx;exact⟨f a,hG a _ h1,by rw[hp a];exact h2⟩⟩
theorem ElR.bulk {w t k}{α:Type}{G:α->Prop}{p:α->List PV}(h:ElR w t k G p):ElB w t k (λa _=>G a) p :=
 ⟨h.sz,λ_ _ _ _ h=>h,λhx=>h.rd hx⟩
theorem Ql {w t e k}{α:Type}{G:α->Nat->Prop}{p:α->List PV}(ht:Tryz.prog.underlying t=some (.slice e))(hs:Tryz.prog.cellsOf t=1)(hk:0<k)(he:ElB w e k G p):ElB w t 1 (λ(l:List α) n=>(∀ a,a∈l->G a n)/\l.length<=n) (λl=>[.sl (λ_=>enc p l)]) :=
 ⟨hs,λl n m h g=>⟨λa ha=>he.up a n m h (g.1 a ha),vF g.2 h⟩,λ{H enc' sp n cs x} hx=>by
  (rcases Go.Deep.open_slice ht hx with⟨rfl,_⟩|⟨a,len,cap,m,n',D,Pl,rfl,hb,hl,hm,hmm,hxe,hi⟩;{exact⟨[],⟨λ_ h=>absurd h (by simp),xO _⟩,⟨.sl0 _ _,rfl⟩,trivial⟩};have hbulk:Rows.uptoBulkAll ((List.range len).map D)<=Rows.uptoBulk x.1:=by rw[hxe];simp only[Rows.uptoBulk];omega);have hbl:len<=Rows.uptoBulk x.1:=by have:=Jf ((List.range len).map D);rw[yH,ZW] at this;omega
  (have hbp:∀ i,i<len->Rows.uptoBulk (D i)<=Rows.uptoBulk x.1:=λi hi=>vF (ZQ (TZ (sZ.2 hi))) hbulk;have hlm:len<=m:=by rw[hmm];split <;> omega);rcases tQ len with h0|h0
  {subst h0;exact⟨[],⟨λ_ h=>absurd h (by simp),xO _⟩,⟨.sl0 _ _,rfl⟩,trivial⟩};rw[he.sz] at hi;have key:∀ i,i<len->∃ y:List Value×α,w.cells? 0 (a.add (i*k)) k=some y.1/\G y.2 (Rows.uptoBulk x.1)/\Cs w y.1 (y7 (p y.2)):=λi hil=>by obtain⟨cs',h1,h2⟩:=hi i oM;obtain⟨y,g1,g2⟩:=he.rd h2;exact⟨(cs',y),h1,he.up _ _ _ (hbp i hil) g1,g2⟩
  haveI:Inhabited (List Value×α):=⟨Classical.choose (key 0 h0)⟩
  obtain⟨Y,hY⟩:=Go.Deep.choose_lt key;have hcell:∀ i j,i<len->j<k->w.cell? (a.add (i*k+j))=some ((Y i).1.getD j undef):=λi j hi' hj=>by
   (obtain⟨h1,_,_⟩:=hY i hi';obtain⟨_,h2,h3⟩:=World.cells?_some h1;have:=h3 j hj;rw[Go.Deep.add_add] at this;rw[this,wM];have:j<(Y i).1.length:=by omega);simp[this]
  obtain⟨b,o,sp'⟩:=a;have hsp:sp'=none:=by
   have:=hcell 0 0 h0 hk;unfold World.cell? at this;split at this
   ·cases sp' with
    |none=>rfl| some s=>simp[Addr.add] at this
   {cases this}
  subst hsp;have hS:b<w.heap.size:=World.cells?_block (a:=⟨b,o,none⟩) (by have:=(hY 0 h0).1;rw[nF] at this;exact this) hk
  (have hlen:((List.range len).map λi=>(Y i).2).length=len:=by simp);have hel:∀ i,i<len->(enc p ((List.range len).map λi=>(Y i).2)).getD i []=y7 (p (Y i).2):=λi hi'=>by simp[Go.Proofs.YtboocdbmnfjomaaGreat.enc,hi']
  refine⟨(List.range len).map λi=>(Y i).2,⟨λz hz=>?_,by rw[hlen];exact hbl⟩,⟨?_,rfl⟩,trivial⟩;{obtain⟨i,hi',rfl⟩:=y9.1 hz;exact (hY i (sZ.1 hi')).2.1}
  (have hel2:(enc p ((List.range len).map λi=>(Y i).2)).length=len:=by rw[zB,hlen]);have hk':∀ i,i<len->(y7 (p (Y i).2)).length=k:=λi hi'=>by obtain⟨h1,_,h3⟩:=hY i hi';obtain⟨_,h2,_⟩:=World.cells?_some h1;rw[<-h3.len];exact h2
  have:=RepD.sl (w:=w) (S:=InW w) (b:=b) (o:=o) (cap:=cap) (s:=k) (els:=enc p ((List.range len).map λi=>(Y i).2)) (λi j=>(Y i).1.getD j undef)
   (λh=>by rw[h] at hel2;simp at hel2;omega) (by rw[hel2];exact hl) (λ_ _ _ _=>hS)
   (λe' he'=>by obtain⟨z,hz,rfl⟩:=y9.1 he';obtain⟨i,hi',rfl⟩:=y9.1 hz;exact hk' i (sZ.1 hi'))
   (λi j hi' hj=>by rw[hel2] at hi';have:=hcell i j hi' hj;rw[T9] at this;rw[m9];exact this)
   (λi j hi' hj=>by rw[hel2] at hi';exact ((hY i hi').2.2.get j (by rw[hk' i hi'];exact hj)).2)
   (λi j hi' hj=>by rw[hel2] at hi';rw[hel i hi'];exact ((hY i hi').2.2.get j (by rw[hk' i hi'];exact hj)).1)
  rw[hel2] at this;exact this⟩
theorem ElB.cut {w t k}{α:Type}{G:α->Nat->Prop}{p:α->List PV}(h:ElB w t k G p){H:Type}{enc:TypeId×Value->H}{sp:Nat->Bool}{n o:Nat}{cs:List Value}{x:DataW H×List MemPlace} (hx:DataW.trod enc Tryz.prog w 0 sp true n t ((cs.drop o).take (Tryz.prog.cellsOf t))=some x):∃ a,G a (Rows.uptoBulk x.1)/\Cs w ((cs.drop o).take k) (y7 (p a)):=by rw[h.sz] at hx;exact h.rd hx
theorem Lg {w t k0 k1 k2}{f0 f1 f2:Field}{α0 α1 α2:Type}{G0:α0->Nat->Prop}{p0:α0->List PV}{G1:α1->Nat->Prop}{p1:α1->List PV}{G2:α2->Nat->Prop}{p2:α2->List PV}(ht:Tryz.prog.underlying t=some (.struct #[f0,f1,f2]))(hs:Tryz.prog.cellsOf t=k0+(k1+k2)) (o0:f0.offset=0) (o1:f1.offset=k0) (o2:f2.offset=k0+k1) (h0:ElB w f0.type k0 G0 p0) (h1:ElB w f1.type k1 G1 p1) (h2:ElB w f2.type k2 G2 p2):ElB w t (k0+(k1+k2)) (λ(a:α0×α1×α2) n=>G0 a.1 n/\G1 a.2.1 n/\G2 a.2.2 n) (λa=>p0 a.1++(p1 a.2.1++p2 a.2.2)) :=
 ⟨hs,λa n m h g=>⟨h0.up _ n m h g.1,h1.up _ n m h g.2.1,h2.up _ n m h g.2.2⟩,λ{H enc sp m cs x} hx=>by obtain⟨y0,y1,y2,n,hxe,hl,g0,g1,g2⟩:=Go.Deep.trod_struct3 ht hx;obtain⟨a0,u0,v0⟩:=h0.cut g0;obtain⟨a1,u1,v1⟩:=h1.cut g1;obtain⟨a2,u2,v2⟩:=h2.cut g2;rw[o0,vS] at v0;rw[o1] at v1;rw[o2,yU (by rw[uP,hl,hs];omega)] at v2;rw[<-Z2] at v2;have e1:=v1.app v2;rw[Jp] at e1;have:=v0.app e1;rw[Jp] at this;refine⟨(a0,a1,a2),⟨h0.up _ _ _ ?_ u0,h1.up _ _ _ ?_ u1,h2.up _ _ _ ?_ u2⟩,by rw[XU,XU];exact this⟩ <;> (rw[hxe];simp only[Rows.uptoBulk,Rows.uptoBulkAll];omega)⟩
theorem bU8 (w:World):ElB w 5 1 (λ(b:UInt8) _=>True) (λb=>[.int .u8 (λ_=>(b.toNat:Int))]) :=
 (Rm (k:=.u8) Tryz.underlying5 (by kernel_rfl)).map (λn=>UInt8.ofNat n.toNat) (λn h=>by
  (have:0<=n/\n<=255:=by simpa[Lit.wf,IntKind.min,IntKind.max,IntKind.signed,IntKind.bits] using h);have e:((UInt8.ofNat n.toNat).toNat:Int)=n:=by rw[UInt8.toNat_ofNat_of_lt' (by show n.toNat<256;omega)];omega
  show [D.int .u8 _]=[D.int .u8 _];rw[e]) (λ_ _=>trivial) |>.bulk
abbrev ND (b:UInt8):List PV:=[.int .u8 (λ_=>(b.toNat:Int))]
abbrev u8l (l:List UInt8):PV:=.sl (λ_=>enc ND l)
theorem BW (w:World):ElB w 22 1 (λ(l:List UInt8) n=>l.length<=n) (λl=>[u8l l]) :=
 (Ql (k:=1) Tryz.underlying22 (by kernel_rfl) (by decide) (bU8 w)).map (λl=>l) (λ_=>rfl) (λ_ _ h=>h.2) (λ_ _ _ h g=>vF g h)
theorem Ny (w:World):ElB w 25 1 (λl n=>l.length<=n) (λl=>[nat l]) :=
 (Ql (k:=1) Tryz.underlying25 (by kernel_rfl) (by decide) (N7 w).bulk).map (λl=>l) (λ_=>rfl) (λ_ _ h=>h.2) (λ_ _ _ h g=>vF g h)
theorem Lj (w:World):ElB w 27 3 (λ(x:R) n=>x.sz n) (λx:R=>[zM x.neg,nat x.num,nat x.den]) :=
 (Lg (k0:=1) (k1:=1) (k2:=1) Tryz.underlying27 (by kernel_rfl) rfl rfl rfl (Rf w).bulk (Ny w) (Ny w)).map (λa=>⟨a.1,a.2.1,a.2.2⟩) (λ_=>rfl) (λ_ _ h=>⟨h.2.1,h.2.2⟩) (λ_ _ _ h g=>g.mono h)
abbrev prg (v:Nat) (fs:List F) (ob:F):Prg:=⟨v,fs.map fA,fA ob⟩
theorem TM (q:Rat):(cq q).length=3:=rfl


theorem Dd {vars:Int}:∀ {ts:List (Int×R)} {p:Int},vT vars p ts=true->∀ t,t∈tq ts->0<=t.1/\t.1<vars
 |[],_,_,t,h=>absurd h (by simp[tq])| u::r,p,h,t,ht=>by rw[eK] at h;simp only[xA,decide_eq_true_eq] at h;obtain⟨⟨⟨⟨⟨h1,h2⟩,h3⟩,h4⟩,h5⟩,h6⟩:=h;rcases yS.1 ht with rfl|ht;{exact⟨h1,h2⟩};{exact Dd h6 t ht}
theorem GU {a:A}{n:Int}(h:a.valid n=true):fA a.f=a/\a.f.wf n:=by have h1:=s7 h;unfold A.valid at h;simp only[xA] at h;exact⟨h1.1,h1.2,Dd h.1⟩
theorem QP {f:F}{n:Int}(h:(fA f).valid n=true):f.wf n:=by
 have:=(GU h).2;have e:(fA f).f=f:=by obtain⟨ts,c⟩:=f;show (⟨tq (tR ts),(zK c).q⟩:F)=⟨ts,c⟩;rw[Vu,yD]
 rwa [e] at this
theorem NG (l:List (Int×R))(hl:l.length<2^38):zH 163 [tsv l] (tsv l):=by refine sF Tryz.f163 ?_;cbv;refine⟨λb hb=>?_⟩;cbv;refine zZ (λh=>?_) (λh=>?_);{cbv;refine jL rfl ?_ rfl;exact xC (hb h)};{cbv;refine xT Ul rfl rfl rfl rfl rfl (wD wH _) (zV om (by simp only[dU,zB];exact om)) rfl ?_;cbv;refine Fn (.frz 7 rfl rfl ?_ ?_) rfl ?_ rfl;{cbv;exact⟨z6 (by simp),z6 (by simp),trivial⟩};{exact trivial};{refine zU ?_;simp}}
theorem Ni:Pg.funcs[110]?=some Tryz.f110:=by rw[vI];rfl
theorem Pn (l:List Rat)(hl:l.length<2^38):zH 110 [qlv l] (qlv l):=by refine xB Ni rfl rfl rfl rfl rfl ?_;cbv;refine⟨λb hb=>?_⟩;cbv;refine zZ (λh=>?_) (λh=>?_);{cbv;refine jL rfl ?_ rfl;exact xC (hb h)};{cbv;refine xT Mj rfl rfl rfl rfl rfl (wD TM _) (zV om (by simp only[dU,zB];exact om)) rfl ?_;cbv;refine Fn (.frz 7 rfl rfl ?_ ?_) rfl ?_ rfl;{cbv;exact⟨z6 (by simp),z6 (by simp),trivial⟩};{exact trivial};{refine zU ?_;simp}}
theorem NH (l:List Nat)(hl:l.length<2^38):zH 112 [ilv l] (ilv l):=by refine sF Tryz.f112 ?_;cbv;refine⟨λb hb=>?_⟩;cbv;refine zZ (λh=>?_) (λh=>?_);{cbv;refine jL rfl ?_ rfl;exact xC (hb h)};{cbv;refine xT QT rfl rfl rfl rfl rfl (wD (show ∀ a,(ci a).length=1 from λ_=>rfl) _) (zV om (by simp only[dU,zB];exact om)) rfl ?_;cbv;refine Fn (.frz 7 rfl rfl ?_ ?_) rfl ?_ rfl;{cbv;exact⟨z6 (by simp),z6 (by simp),trivial⟩};{exact trivial};{refine zU ?_;simp}}
theorem DJ (f:A)(hl:f.ts.length<2^38):zH 109 [av f] (av f):=by have c1:=NG f.ts hl;obtain⟨fts,fc⟩:=f;refine sF Tryz.f109 ?_;cbv;refine cA c1 ?_;cbv;exact rA
theorem Do:ty 32=.sli 4 80 [.nil,.ff,.nil,.nil]:=by cbv
theorem Tj:Pg.funcs[108]?=some Tryz.f108:=by rw[vI];rfl
theorem Mp (P:Prg)(hl:P.rows.length<2^28)(hr:∀ a,a∈P.rows->a.ts.length<2^38)(ho:P.ob.ts.length<2^38):Sound 108 [pgv P] [] [] (.agg [iV P.v,zT 24 4 P.rows.length,tsv P.ob.ts,zM P.ob.c.neg,nat P.ob.c.num,nat P.ob.c.den]) [] [(24,zW 4 (enc ac P.rows))]:=by
 have c1:=DJ P.ob ho;have cd:∀ (i:Nat) a,P.rows[i]?=some a->zH 109 [av a] (av a):=λi a h=>DJ a (hr a (yE h));obtain⟨v,us,ob⟩:=P;obtain⟨ots,oc⟩:=ob;dsimp only at *;refine xB Tj rfl rfl rfl rfl rfl ?_;show wp _ ⟨Vk 0 [.agg [iV v,.sl (λ_=>enc ac us),tsv ots,zM oc.neg,nat oc.num,nat oc.den]],_⟩ (gT _ (.agg [iV v,zT 24 4 us.length,tsv ots,zM oc.neg,nat oc.num,nat oc.den]) [] [(24,zW 4 (enc ac us))]);have c1':zH 109 [.agg [tsv ots,zM oc.neg,nat oc.num,nat oc.den]] (.agg [tsv ots,zM oc.neg,nat oc.num,nat oc.den]):=c1;clear c1 hr;cbv;refine dR 7 (by cbv) (by cbv) ?_;cbv;refine dA c1' ?_;cbv;refine zY (σ:=Nat) (λi=>⟨[(2,.ptr 2 0),(3,.ptr 3 0),(13,alv us),(14,iV us.length),(15,iV i)],[(2,.box [iV 0,.nil,.nil,.ff,.nil,.nil]),(3,.box [iV v,zT 24 4 i,tsv ots,zM oc.neg,nat oc.num,nat oc.den]),(24,zW 4 (enc ac (us.take i)))]⟩)
  (λi=>i<=us.length) (λi=>us.length-i) 0 (xO _)
  (.trans (.le (ps':=⟨[(2,.ptr 2 0),(3,.ptr 3 0),(13,alv us),(14,iV us.length),(15,iV (((0:Nat):Int)))],[(2,.box [iV 0,.nil,.nil,.ff,.nil,.nil]),(3,.box [iV v,.nil,tsv ots,zM oc.neg,nat oc.num,nat oc.den])]⟩) (by cbv;repeat' first|exact trivial|exact lR|exact zF (by (try dsimp only [zS] at *);rw[zB])|apply And.intro) (by cbv;repeat' first|exact trivial|exact lR|apply And.intro) rfl)
   (.trans (.adoptB (ps:=⟨[(2,.ptr 2 0),(3,.ptr 3 0),(13,alv us),(14,iV us.length),(15,iV (((0:Nat):Int)))],[(2,.box [iV 0,.nil,.nil,.ff,.nil,.nil]),(3,.box [iV v,.nil,tsv ots,zM oc.neg,nat oc.num,nat oc.den])]⟩) (cs:=[iV v,.nil,tsv ots,zM oc.neg,nat oc.num,nat oc.den]) 24 4 3 1 rfl rfl rfl)
   (.le okZ (by cbv;repeat' first|exact trivial|exact lR|exact zC rfl|apply And.intro) rfl))) ?_
 intro i hi;cbv;refine zG (λh=>?_) (λh=>?_)
 ·(have hlt:i<us.length:=om;obtain⟨a,ha⟩:=yZ hlt;have k1:=cd i a ha;obtain⟨ats,acc⟩:=a;have k1':zH 109 [.agg [tsv ats,zM acc.neg,nat acc.num,nat acc.den]] (.agg [tsv ats,zM acc.neg,nat acc.num,nat acc.den]):=k1;have htk:enc ac (us.take (i+1))=enc ac (us.take i)++zI [[tsv ats,zM acc.neg,nat acc.num,nat acc.den]]:=by rw[List.take_succ,ha,<-z3];rfl);have htl:(us.take i).length=i:=by rw[xP];omega
  clear cd k1;cbv;refine xL ha kX fI ?_;cbv;refine YR 6 [(5,24)] (by cbv) (by cbv) ?_;cbv;refine dA k1' ?_;cbv;refine oZ Do rfl ⟨by simp[zI,y7]⟩ rfl (by rw[zB,htl]) (zV (by simp[zI] <;> omega) (by simp[zI,zB,htl];exact om)) ?_;cbv;exact⟨zE om om,i+1,om,om,.le okZ (by cbv;repeat' first|exact trivial|exact lR|exact zR rfl (by rw[zB,htl];rfl)|exact zC htk.symm|apply And.intro) rfl⟩
 {have hin:us.take i=us:=yU om;have hil:i=us.length:=om;cbv;rw[hin];refine Z9 24 (.refl _) rfl rfl rfl ?_;cbv;exact⟨lR,zR rfl hil,lR,lR,lR,lR,trivial⟩}
abbrev wC (n:Nat) (v:Int) (us:List A) (ots:List (Int×R)) (oc:R) (sd:Bool) (st:Int) (z:R) (pt du ry:List Rat) (bas:List Nat) (pv er:Int):List PV :=
 [iV v,zT n 4 us.length,tsv ots,zM oc.neg,nat oc.num,nat oc.den,zM sd,iV st,zM z.neg,nat z.num,nat z.den,qlv pt,qlv du,qlv ry,ilv bas,iV pv,iV er]
abbrev wS (b n:Nat) (v:Int) (us:List A) (ots:List (Int×R)) (oc:R) (sd:Bool) (st:Int) (z:R) (pt du ry:List Rat) (bas:List Nat) (pv er:Int):List (Nat×Obj') :=
 [(b,.box (wC n v us ots oc sd st z pt du ry bas pv er)),(n,zW 4 (enc ac us))]
abbrev Al (n:Nat) (v:Int) (us:List A) (ots:List (Int×R)) (oc:R):List PV:=wC n v us ots oc false 0 ⟨false,[],[]⟩ [] [] [] [] 0 0
theorem Ti:Pg.funcs[61]?=some Tryz.f61:=by rw[vI];rfl
theorem Mo (P:Prg)(h:P.sz (2^32))(hl:P.rows.length<2^28)(hv:P.valid=true):Sound 61 [pgv P] [] [] (.tup [.ptr 10 0,iV 0]) [] [(10,.box (Al 8 P.v P.rows P.ob.ts P.ob.c)),(8,zW 4 (enc ac P.rows))]:=by have cv:=Kd P h;rw[hv] at cv;have cc:=Mp P hl (λa ha=>by have:=(h.rows.sz a ha).t.len;omega) (by have:=h.ob.t.len;omega);obtain⟨v,us,ob⟩:=P;obtain⟨ots,oc⟩:=ob;have cv':zH 60 [.agg [iV v,.sl (λ_=>enc ac us),tsv ots,zM oc.neg,nat oc.num,nat oc.den]] (zM true):=cv;have cc':Sound 108 [.agg [iV v,.sl (λ_=>enc ac us),tsv ots,zM oc.neg,nat oc.num,nat oc.den]] [] [] (.agg [iV v,zT 24 4 us.length,tsv ots,zM oc.neg,nat oc.num,nat oc.den]) [] [(24,zW 4 (enc ac us))]:=cc;obtain⟨tru,htr⟩:∃ b,b=true:=⟨_,rfl⟩;rw[<-htr] at cv';clear cv cc h hv;refine xB Ti rfl rfl rfl rfl rfl ?_;show wp _ ⟨Vk 0 [.agg [iV v,.sl (λ_=>enc ac us),tsv ots,zM oc.neg,nat oc.num,nat oc.den]],_⟩ (gT _ (.tup [.ptr 10 0,iV 0]) [] [(10,.box (Al 8 v us ots oc)),(8,zW 4 (enc ac us))]);cbv;refine cA cv' ?_;cbv;refine zZ (λe=>?_) (λe=>by rw[htr] at e;cases e);cbv;refine kA (λ_=>8) cc' ?_;cbv;refine rY (ps':=⟨[(2,.ptr 10 0),(3,iV 0)],[(10,.box (Al 8 v us ots oc)),(8,zW 4 (enc ac us))]⟩) id (wkY (by cbv;repeat' first|exact trivial|exact lR|exact zC rfl|exact zO rfl|exact xC rfl|apply And.intro)) rfl okR (by rfl) trivial ?_;exact okA
theorem Th:Pg.funcs[65]?=some Tryz.f65:=by rw[vI];rfl
theorem Tl:Pg.funcs[63]?=some Tryz.f63:=by rw[vI];rfl
theorem Rl {α:Type}{p:α->List PV}{n:Nat}{els:List (List D)}{l:List α}{i i':Nat}{a:α}{K:List PV->Prop}(he:els=enc p l)(h:l[i]?=some a)(hi:i'=i)(hf:∀ a,yX qT (p a)=true)(hn:∀ a,(p a).length=n)(hK:K (p a)):ElOk n (λ_=>els) (λ_=>i') K :=
 K8 i hi (p a) (hf a) (hn a) (by rw[he];unfold enc;rw[jJ,h];rfl) hK
abbrev pgo (n:Nat) (P:Prg):PV:=.agg [iV P.v,zT n 4 P.rows.length,tsv P.ob.ts,zM P.ob.c.neg,nat P.ob.c.num,nat P.ob.c.den]
abbrev rwO (n:Nat) (us:List A):List (Nat×Obj'):=[(n,zW 4 (enc ac us))]
theorem Ff (P:Prg)(hP:P.sz (2^32)):Sound 60 [pgo 1000009 P] (rwO 1000009 P.rows) [] (zM P.valid) (rwO 1000009 P.rows) []:=by
 obtain⟨n,us,ob⟩:=P;have hus:=hP.rows;have hc:∀ a,a∈us->zH 33 [av a,iV n] (zM (a.valid n)):=λa h=>gF a n ((hus.sz a h).mono (by decide));have co:=gF ob n (hP.ob.mono (by decide));have hul:=hus.len;dsimp only at hul;generalize hr:Prg.valid ⟨n,us,ob⟩=r;have hr0:r=(decide (0<=n/\n<=1280/\us.length<=4096)&&ob.valid n&&us.all (A.valid n)):=hr.symm;generalize ob.valid n=bo at *;obtain⟨ots,oc⟩:=ob;have hf:¬(0<=n/\n<=1280/\us.length<=4096)->r=false:=λh=>by rw[hr0,decide_eq_false h];rfl
 have ht:(0<=n/\n<=1280/\us.length<=4096)->r=(bo&&us.all (A.valid n)):=λh=>by rw[hr0,decide_eq_true h,xQ]
 clear hr hr0 hus hP;obtain⟨XS,hXS⟩:=ex (enc ac us);have hXl:XS.length=us.length:=by rw[<-hXS,zB]
 show Sound _ [.agg [iV n,zT 1000009 4 us.length,tsv ots,zM oc.neg,nat oc.num,nat oc.den]] [(1000009,zW 4 (enc ac us))] [] _ [(1000009,zW 4 (enc ac us))] [];rw[hXS];refine xB V5 rfl rfl rfl rfl rfl ?_;cbv;refine zX (λe1=>?_) (λe1=>?_);{cbv;refine rY id (.refl _) rfl okR (by rfl) okR ?_;exact zO (hf okQ)};cbv;refine zX (λe2=>?_) (λe2=>?_);{cbv;refine rY id (.refl _) rfl okR (by rfl) okR ?_;exact zO (hf okQ)};cbv;refine zX (λe3=>?_) (λe3=>?_);{cbv;refine rY id (.refl _) rfl okR (by rfl) okR ?_;exact zO (hf okQ)};have hv:=ht okQ;clear ht hf e1 e2 e3;cbv;refine cA co ?_;cbv;refine zZ (λe4=>?_) (λe4=>?_)
 rotate_left
 {cbv;refine rY id (.refl _) rfl okR (by rfl) okR ?_;exact zO (by rw[hv,e4];rfl)};rw[e4,xQ] at hv;cbv;refine zY (σ:=Nat) (λi=>⟨[(1,.ptr 1 0),(28,zT 1000009 4 us.length),(29,iV us.length),(30,iV i)],[(1000009,zW 4 XS),(1,.box [iV n,zT 1000009 4 us.length,tsv ots,zM oc.neg,nat oc.num,nat oc.den])]⟩) (λi=>i<=us.length/\r=(us.drop i).all (A.valid n)) (λi=>us.length-i) 0 ⟨by omega,by rw[hv];rfl⟩ (wkW) ?_;clear hv;intro i hi;obtain⟨h1,h2⟩:=hi;cbv;refine zG (λh5=>?_) (λh5=>?_);{have hlt:i<us.length:=om;obtain⟨a,ha⟩:=yB hlt;have cv:=hc a (yE ha);rw[yJ ha,Jq] at h2;generalize a.valid n=pa at *;cbv;refine⟨z9 om om,?_⟩;refine Rl hXS.symm ha om kX fI ?_;cbv;refine cA cv ?_;cbv;refine zZ (λe=>?_) (λe=>?_);{cbv;refine⟨zE om om,?_⟩;cbv;exact⟨i+1,⟨om,by rw[h2,e,xQ]⟩,om,wkW⟩};{cbv;refine rY id (.refl _) rfl okR (by rfl) okR ?_;exact zO (by rw[h2,e];rfl)}};{have he:i=us.length:=om;rw[he,vE] at h2;cbv;refine rY id (.refl _) rfl okR (by rfl) okR ?_;exact yN h2}
theorem Fc (v:Nat)(fs:List F)(ob:F)(hv:v<2^28)(hr:fs.length<2^28)(hfl:∀ f,f∈fs->f.ts.length<2^30/\∀ t,t∈f.ts->0<=t.1/\t.1<v)(hol:ob.ts.length<2^30)(hot:∀ t,t∈ob.ts->0<=t.1/\t.1<v):Sound 164 [pgo 1000009 ⟨v,fs.map fA,fA ob⟩] (rwO 1000009 (fs.map fA)) [] (.ptr 13 0) (rwO 1000009 (fs.map fA)) (sO v fs.length (kM v (fs.map (lnS v)) (lnS v ob))):=by
 obtain⟨US,hUS⟩:=ex (fs.map fA);have hUl:US.length=fs.length:=by rw[<-hUS,yH]
 obtain⟨n,hn⟩:=ex US.length;rw[hn] at hUl;have hL0:(lnS v ob).length=v+1:=YI v ob;obtain⟨L0,hL0e⟩:=ex (lnS v ob);have cob:∀ (r:Nat) (D:Dic),D.nb.length=v->Sound 206 [.ptr 1000000 0,fv ob] (tL v r D) [] (zT 5 3 (v+1)) (tL v r D) [(5,zW 3 (enc cq L0))]:=λr D h=>by have:=HV v r D ob oM hol (λt ht=>by rw[h];exact hot t ht);rw[h,hL0e] at this;exact this
 rw[hL0e] at hL0;have cli:∀ (k:Nat) (f:F) (r:Nat) (D:Dic),fs[k]?=some f->D.nb.length=v->Sound 206 [.ptr 1000000 0,fv f] (tL v r D) [] (zT 5 3 (v+1)) (tL v r D) [(5,zW 3 (enc cq (lnS v f)))]:=λk f r D hf h=>by have hm:=hfl f (yE hf);have:=HV v r D f oM hm.1 (λt ht=>by rw[h];exact hm.2 t ht);rw[h] at this;exact this
 obtain⟨A0,hA0⟩:=ex (fA ob);rw[show fv ob=av (fA ob) from rfl,hA0] at cob;show Sound _ [.agg [iV v,zT 1000009 4 ((fs.map fA).length),tsv (fA ob).ts,zM ((fA ob).c.neg),nat (fA ob).c.num,nat (fA ob).c.den]] [(1000009,zW 4 (enc ac (fs.map fA)))] [] _ [(1000009,zW 4 (enc ac (fs.map fA)))] _;rw[hA0,hUS,hn];obtain⟨XS,hXS⟩:=ex (enc ac US);have hXl:XS.length=n:=by rw[<-hXS,zB,hn]
 rw[hXS];obtain⟨ots,oc⟩:=A0;obtain⟨SO,hSO⟩:=ex (sO v fs.length (kM v (fs.map (lnS v)) (lnS v ob)));rw[hSO];refine xB FC rfl rfl rfl rfl rfl ?_;cbv;refine zY (σ:=Nat) (λi=>⟨[(1,.ptr 1 0),(3,.ptr 13 0),(15,iV v),(16,iV i)],[(1000009,zW 4 XS),(1,.box [iV v,zT 1000009 4 n,tsv ots,zM oc.neg,nat oc.num,nat oc.den]),(13,.box [iV v,iV n,.nil,zT 26 1 i,.nil,.nil,iV 0]),(26,zW 1 (enc ci (List.range i)))]⟩)
  (λi=>i<=v) (λi=>v-i) 0 (xO _)
  (.trans (.le (ps':=⟨[(1,.ptr 1 0),(3,.ptr 13 0),(15,iV v),(16,iV (((0:Nat):Int)))],[(1000009,zW 4 XS),(1,.box [iV v,zT 1000009 4 n,tsv ots,zM oc.neg,nat oc.num,nat oc.den]),(13,.box [iV v,iV n,.nil,.nil,.nil,.nil,iV 0])]⟩) okZ (by cbv;repeat' first|exact trivial|exact lR|exact zC rfl|exact zF (by (try dsimp only [zS] at *);rw[zB,hn])|apply And.intro) rfl)
  (.trans (.adoptB (ps:=⟨[(1,.ptr 1 0),(3,.ptr 13 0),(15,iV v),(16,iV (((0:Nat):Int)))],[(1000009,zW 4 XS),(1,.box [iV v,zT 1000009 4 n,tsv ots,zM oc.neg,nat oc.num,nat oc.den]),(13,.box [iV v,iV n,.nil,.nil,.nil,.nil,iV 0])]⟩) 26 1 13 3 rfl rfl rfl) (wkZ))) ?_
 intro i hi;cbv;refine zG (λh=>?_) (λh=>?_)
 ·(have hiv:i<v:=om;have hEr:enc ci (List.range i)++zI [[iV i]]=enc ci (List.range (i+1)):=by rw[nD,<-z3];rfl);have hEl:(enc ci (List.range i)).length=i:=by rw[zB,ZW]
  (have hle:i+1<=v:=hiv;have hmu:v-(i+1)<v-i:=by omega);obtain⟨X,hX⟩:=ex (enc ci (List.range i))
  (rw[hX] at hEr hEl;obtain⟨Y,hY⟩:=ex (enc ci (List.range (i+1)));rw[hY] at hEr;cbv;rw[hX];refine xT QT rfl rfl rfl hEl.symm rfl ⟨by simp[zI,y7]⟩ (zV (by simp[zI] <;> omega) (by simp[zI];rw[hEl];exact om)) rfl ?_;cbv;refine⟨zE om om,?_⟩;cbv;have hml:(zI [[iV i]]).length=1:=rfl;have hYl:Y.length=i+1:=by rw[<-hEr,alT53,hEl,hml]);exact⟨i+1,hle,hmu,.le okZ (by cbv;repeat' first|exact trivial|exact lR|exact zC rfl|exact zR rfl (by rw[hEl,hml])|exact zC (by rw[hEr];exact hY.symm)|apply And.intro) rfl⟩
 ·(have hiv:i=v:=om;subst hiv;obtain⟨v,hvi⟩:∃ v,v=i:=⟨_,rfl⟩;subst hvi;clear h hi;obtain⟨NB,hNB⟩:=ex (List.range v);have hNl:NB.length=v:=by rw[<-hNB,ZW]);have hNe:enc ci (List.range v)=enc ci NB:=by rw[hNB]
  (obtain⟨BS,hBS⟩:∃ BS,BS=λk=>(List.range k).map (v+·):=⟨_,rfl⟩;have hBl:∀ k,(BS k).length=k:=λk=>by rw[hBS];simp);have hB0:BS 0=[]:=by rw[hBS];rfl
  (have hB1:∀ k,BS (k+1)=BS k++[v+k]:=λk=>by rw[hBS];show (List.range (k+1)).map _=_;rw[nD,qS];rfl);obtain⟨FS,hFS⟩:∃ FS,FS=λk=>(fs.take k).map (lnS v):=⟨_,rfl⟩
  (have hF0:FS 0=[]:=by rw[hFS];rfl);have hFl:∀ k,k<=fs.length->(FS k).length=k:=λk hk=>by rw[hFS];show ((fs.take k).map _).length=k;rw[yH,xP];omega
  (have hF1:∀ k f,fs[k]?=some f->FS (k+1)=FS k++[lnS v f]:=λk f hf=>by rw[hFS];show (fs.take (k+1)).map _=_;rw[rJ,hf,qS];rfl);have hend:SO=sO v fs.length ⟨BS fs.length,NB,FS fs.length,L0⟩:=by rw[<-hSO,hBS,hFS,<-hNB];dsimp only;rw[vV,hL0e];unfold kM;rw[yH]
  clear hBS hFS hSO hNB;cbv;refine zY (σ:=Nat) (λk=>⟨[(1,.ptr 1 0),(3,.ptr 13 0),(31,zT 1000009 4 n),(32,iV n),(33,iV k)],[(1000009,zW 4 XS),(1,.box [iV v,zT 1000009 4 n,tsv ots,zM oc.neg,nat oc.num,nat oc.den]),(13,.box [iV v,iV n,zT 48 1 ((BS k).length),zT 26 1 NB.length,zT 60 1 ((FS k).length),.nil,iV 0]),(26,zW 1 (enc ci NB)),(48,zW 1 (enc ci (BS k))),(60,.mat 3 (λ_=>(FS k).map (enc cq)) [])]⟩)
   (λk=>k<=n) (λk=>n-k) 0 (xO _)
   (.trans (.le (ps':=⟨[(1,.ptr 1 0),(3,.ptr 13 0),(31,zT 1000009 4 n),(32,iV n),(33,iV (((0:Nat):Int)))],[(1000009,zW 4 XS),(1,.box [iV v,zT 1000009 4 n,tsv ots,zM oc.neg,nat oc.num,nat oc.den]),(13,.box [iV v,iV n,.nil,zT 26 1 v,.nil,.nil,iV 0]),(26,zW 1 (enc ci NB))]⟩) (by cbv;repeat' first|exact trivial|exact lR|exact zC rfl|exact zF (by (try dsimp only [zS] at *);rw[zB,hn])|apply And.intro) (by cbv;repeat' first|exact trivial|exact lR|exact zC rfl|exact zR rfl hNl.symm|exact zC hNe|apply And.intro) rfl)
   (.trans (.adoptB (ps:=⟨[(1,.ptr 1 0),(3,.ptr 13 0),(31,zT 1000009 4 n),(32,iV n),(33,iV (((0:Nat):Int)))],[(1000009,zW 4 XS),(1,.box [iV v,zT 1000009 4 n,tsv ots,zM oc.neg,nat oc.num,nat oc.den]),(13,.box [iV v,iV n,.nil,zT 26 1 v,.nil,.nil,iV 0]),(26,zW 1 (enc ci NB))]⟩) 48 1 13 2 rfl rfl rfl)
   (.trans (wkZ (ps':=⟨[(1,.ptr 1 0),(3,.ptr 13 0),(31,zT 1000009 4 n),(32,iV n),(33,iV (((0:Nat):Int)))],[(1000009,zW 4 XS),(1,.box [iV v,zT 1000009 4 n,tsv ots,zM oc.neg,nat oc.num,nat oc.den]),(13,.box [iV v,iV n,zT 48 1 0,zT 26 1 v,.nil,.nil,iV 0]),(26,zW 1 (enc ci NB)),(48,zW 1 ([]))]⟩))
   (.trans (.adoptM (ps:=⟨[(1,.ptr 1 0),(3,.ptr 13 0),(31,zT 1000009 4 n),(32,iV n),(33,iV (((0:Nat):Int)))],[(1000009,zW 4 XS),(1,.box [iV v,zT 1000009 4 n,tsv ots,zM oc.neg,nat oc.num,nat oc.den]),(13,.box [iV v,iV n,zT 48 1 0,zT 26 1 v,.nil,.nil,iV 0]),(26,zW 1 (enc ci NB)),(48,zW 1 ([]))]⟩) 60 3 13 4 rfl rfl rfl)
   (.le okZ (by cbv;repeat' first|exact trivial|exact lR|exact zC rfl|exact zR rfl (by rw[hB0];rfl)|exact zR rfl (by rw[hF0];rfl)|exact zR rfl hNl.symm|exact zC hNe|exact zC (by rw[hB0];rfl)|exact⟨by rw[hF0];rfl⟩|apply And.intro) rfl))))) ?_
  intro k hk;cbv;refine zG (λh=>?_) (λh=>?_)
  ·(have hkU:k<n:=om;obtain⟨f,hf⟩:=yZ (show k<fs.length by omega);have hUk:US[k]?=some (fA f):=by rw[<-hUS,jJ,hf];rfl);obtain⟨Ln,hLn⟩:=ex (lnS v f)
   (have hLl:Ln.length=v+1:=by rw[<-hLn,YI]);have hFk:=hF1 k f hf
   (have hBk:=hB1 k;have hFkl:=hFl k oM;have hBkl:=hBl k;have cln:=cli k f n ⟨BS (k+1),NB,FS k,[]⟩ hf hNl;rw[hLn] at cln hFk;obtain⟨a,ha⟩:=ex (fA f);rw[ha] at hUk cln;obtain⟨ats,ac0⟩:=a;have hFl1:(FS (k+1)).length=(FS k).length+1:=by rw[hFk,alT53];rfl);have hBl1:(BS (k+1)).length=(BS k).length+1:=by rw[hBk,alT53];rfl
   have hBe:enc ci (BS k)++zI [[iV ((v:Int)+(k:Int))]]=enc ci (BS (k+1)):=by rw[hBk,<-z3];exact congrArg (enc ci (BS k)++·) (SN v k)
   (have hBe2:(enc ci (BS k)).length=(BS k).length:=zB _ _;have hLe1:(enc cq Ln).length=v+1:=by rw[zB,hLl]);have hle:k+1<=n:=hkU
   (have hmu:n-(k+1)<n-k:=by omega);obtain⟨B1,hB1e⟩:=ex (BS (k+1))
   (obtain⟨F1,hF1e⟩:=ex (FS (k+1));rw[hB1e] at hBe hBl1 cln;rw[hF1e] at hFk hFl1;obtain⟨B0,hB0e⟩:=ex (BS k);obtain⟨F0,hF0e⟩:=ex (FS k);rw[hB0e] at hBe hBl1 hBe2 hBkl;rw[hF0e] at hFk hFl1 cln hFkl;have hFe:F0.map (enc cq)++[enc cq Ln]=F1.map (enc cq):=by rw[hFk,qS];rfl);cbv
   rw[hB0e,hF0e];refine⟨z9 om om,?_⟩;refine Rl hXS.symm hUk om kX fI ?_;cbv;refine YR 11 [(10,48)] (by cbv) (by cbv) ?_;cbv;refine⟨zE om om,?_⟩;cbv;refine oZ QT rfl ⟨by simp[zI,y7]⟩ rfl hBe2.symm (zV (by simp[zI] <;> omega) (by simp[zI];rw[hBe2];exact om)) ?_;cbv;refine o5 (σ:=Unit) (λ_=>⟨[(1,.ptr 1 0),(3,.ptr 13 0),(31,zT 1000009 4 n),(32,iV n),(33,iV k)],[(1000009,zW 4 XS),(1,.box [iV v,zT 1000009 4 n,tsv ots,zM oc.neg,nat oc.num,nat oc.den]),(13,.box [iV v,iV n,zT 48 1 B1.length,zT 26 1 NB.length,zT 60 1 F1.length,.nil,iV 0]),(26,zW 1 (enc ci NB)),(48,zW 1 (enc ci B1)),(60,.mat 3 (λ_=>F1.map (enc cq)) [])]⟩) (λ_=>True) (.le (ps':=⟨[(1,.ptr 1 0),(3,.ptr 13 0),(6,.ptr 6 0),(31,zT 1000009 4 n),(32,iV n),(33,iV k)],[(1000009,zW 4 XS),(1,.box [iV v,zT 1000009 4 n,tsv ots,zM oc.neg,nat oc.num,nat oc.den]),(13,.box [iV v,iV n,zT 48 1 B1.length,zT 26 1 NB.length,zT 60 1 F0.length,.nil,iV 0]),(26,zW 1 (enc ci NB)),(48,zW 1 (enc ci B1)),(60,.mat 3 (λ_=>F0.map (enc cq)) []),(6,.box [tsv ats,zM ac0.neg,nat ac0.num,nat ac0.den])]⟩) okZ (by cbv;repeat' first|exact trivial|exact lR|exact zC rfl|exact⟨rfl⟩|exact zR rfl (by rw[hBe2,hBl1];rfl)|exact zC hBe|apply And.intro) rfl) (by cbv) ?_ ?_
   ·cbv
    repeat' first
     |exact trivial
     |(refine kA Ld cln ?_;cbv)
     |(refine BY (.unfocus 59 58 [] [] rfl rfl rfl ⟨rfl,hLe1.symm⟩) Mk rfl rfl rfl (by show F0.length=(F0.map (enc cq)).length;rw[yH]) rfl rfl rfl rfl rfl (by show 0<1;decide) (zV om (by show (((F0.map (enc cq)).length+1:Nat):Int)*_<=_;rw[yH];exact om)) rfl ?_;cbv)
     |exact⟨(),trivial,.le okZ (by cbv;repeat' first|exact trivial|exact lR|exact zC rfl|exact⟨rfl⟩|exact zR rfl (by show F1.length=(F0.map (enc cq)).length+1;rw[yH];exact hFl1)|exact zR rfl (by show (F0.map (enc cq)).length+1=F1.length;rw[yH];exact hFl1.symm)|exact⟨hFe⟩|apply And.intro) rfl⟩
     |apply And.intro
    done
   intro _ _;cbv;refine⟨zE om om,?_⟩;cbv;exact⟨k+1,hle,hmu,.le okZ (by cbv;rw[hB1e,hF1e];repeat' first|exact trivial|exact lR|exact zC rfl|exact⟨rfl⟩|apply And.intro) rfl⟩
  ·(have hkU:k=n:=om;have hkf:k=fs.length:=by omega);rw[<-hkf] at hend
   obtain⟨B0,hB0e⟩:=ex (BS k);obtain⟨F0,hF0e⟩:=ex (FS k);have c0:=cob n ⟨B0,NB,F0,[]⟩ hNl;rw[hB0e,hF0e] at hend;subst hend;cbv;rw[hB0e,hF0e];refine kA Lc c0 ?_;cbv;refine rY (ps':=⟨[(2,.ptr 13 0)],[(1000009,zW 4 XS)]++sO v k ⟨B0,NB,F0,L0⟩⟩) id (.le okZ (by cbv;repeat' first|exact trivial|exact lR|exact zC rfl|exact⟨rfl⟩|exact zF om|exact zR rfl hL0.symm|apply And.intro) rfl) rfl okR (by rfl) okR ?_;exact lR


theorem DI (v:Int)(us:List A)(ots:List (Int×R))(oc:R)(st:Int)(z:R)(pt du ry:List Rat)(bas:List Nat)(pv er:Int)(s:SolR) (cs:Sound 111 [pgo 1000009 ⟨v,us,⟨ots,oc⟩⟩] (rwO 1000009 us) [] (.tup [slv s,iV 0]) (rwO 1000009 us) []) (h1:s.pt.length<2^38) (h2:s.du.length<2^38) (h3:s.ry.length<2^38) (h4:s.bas.length<2^38):Sound 65 [.ptr 1000000 0] (wS 1000000 1000001 v us ots oc false st z pt du ry bas pv er) [] (.tup [slv s,iV 0]) (wS 1000000 1000001 v us ots oc true s.st (zK s.val) s.pt s.du s.ry s.bas s.pv 0) []:=by
 have k1:=Pn s.pt h1;have k2:=Pn s.du h2;have k3:=Pn s.ry h3;have k4:=NH s.bas h4;obtain⟨st',val,pt',du',ry',bas',pv'⟩:=s;dsimp only at *
 try unfold slv at cs
 try unfold slv
 dsimp only at *;obtain⟨Z,hZ⟩:=ex (zK val);rw[hZ] at cs;rw[hZ];have cs':Sound 111 [.agg [iV v,zT 1000009 4 us.length,tsv ots,zM oc.neg,nat oc.num,nat oc.den]] [(1000009,zW 4 (enc ac us))] [] _ [(1000009,zW 4 (enc ac us))] []:=cs;clear cs hZ;refine xB Th rfl rfl rfl rfl rfl ?_;cbv;refine m0 rfl ?_;cbv;refine m0 rfl ?_;cbv;refine kA (λn=>match nqb n 1000009 with|true=>1000001|false=>n) cs' ?_;cbv;refine zP 13 (by cbv) ?_;cbv;refine dA k1 ?_;cbv;refine dA k2 ?_;cbv;refine dA k3 ?_;cbv;refine dA k4 ?_;cbv;refine SK 6 5 2 [4] (by cbv) (by cbv) ?_;cbv;refine rY (ps':=⟨[(2,.ptr 2 0),(3,iV 0)],wS 1000000 1000001 v us ots oc true st' Z pt' du' ry' bas' pv' 0++[(2,.box [iV st',zM Z.neg,nat Z.num,nat Z.den,qlv pt',qlv du',qlv ry',ilv bas',iV pv'])]⟩) id (wkY (by cbv;repeat' first|exact trivial|exact lR|exact zC rfl|exact yN rfl|exact zO rfl|exact xC rfl|apply And.intro)) rfl okR (by rfl) okR ?_;cbv;exact okA
theorem Po (a:A)(v:Int)(us:List A)(ots:List (Int×R))(oc:R)(sd:Bool)(st:Int)(z:R)(pt du ry:List Rat)(bas:List Nat)(pv:Int)(ha:a.sz (2^32))(hv:a.valid v=true)(hu:us.length<4096)(hn:¬(sd=true/\st=2)):Sound 63 [.ptr 1000000 0,av a] [(1000000,.box (wC 31 v us ots oc sd st z pt du ry bas pv 0))] [(31,zW 4 (enc ac us))] (iV 0) [(1000000,.box (wC 31 v (us++[a]) ots oc false st z pt du ry bas pv 0))] [(31,zW 4 (enc ac (us++[a])))]:=by
 have cv:=gF a v (ha.mono (by decide));rw[hv] at cv;have cd:=DJ a (by have:=ha.t.len;omega);obtain⟨ats,acc⟩:=a;have cv':zH 33 [.agg [tsv ats,zM acc.neg,nat acc.num,nat acc.den],iV v] (zM true):=cv;have cd':zH 109 [.agg [tsv ats,zM acc.neg,nat acc.num,nat acc.den]] (.agg [tsv ats,zM acc.neg,nat acc.num,nat acc.den]):=cd;have hXe:enc ac (us++[(⟨ats,acc⟩:A)])=enc ac us++zI [[tsv ats,zM acc.neg,nat acc.num,nat acc.den]]:=by rw[<-z3];rfl
 have hUl:(us++[(⟨ats,acc⟩:A)]).length=us.length+1:=by rw[alT53];rfl
 have hXl:(enc ac us).length=us.length:=zB _ _;obtain⟨XS,hXS⟩:=ex (enc ac us);rw[hXS] at hXe hXl;obtain⟨us',hus'⟩:=ex (us++[(⟨ats,acc⟩:A)]);rw[hus'] at hXe hUl;rw[hXS,hus'];obtain⟨XT,hXT⟩:=ex (enc ac us');rw[hXT] at hXe;rw[hXT];obtain⟨tru,htr⟩:∃ b,b=true:=⟨_,rfl⟩;rw[<-htr] at cv';clear cv cd ha hv;refine xB Tl rfl rfl rfl rfl rfl ?_;cbv;refine m0 rfl ?_;cbv;refine zP 8 (by cbv) ?_;cbv;refine dA cv' ?_;cbv;refine zZ (λe=>?_) (λe=>by rw[htr] at e;cases e);cbv;refine zG (λe=>absurd e (by exact om)) (λe=>?_);cbv;refine YR 10 [(9,31)] (by cbv) (by cbv) ?_;cbv;refine dA cd' ?_;cbv;refine oZ Do rfl ⟨by simp[zI,y7]⟩ rfl hXl.symm (zV (by simp[zI] <;> omega) (by simp[zI,hXl];exact om)) ?_;cbv;have hml:(zI [[tsv ats,zM acc.neg,nat acc.num,nat acc.den]]).length=1:=rfl;refine yI (λh1=>?_) (λh1=>?_);{cbv;refine wU rfl ?_;cbv;refine zG (λe=>absurd ⟨h1,e⟩ hn) (λe=>?_);cbv;refine rY (ps':=⟨[(4,iV 0)],[(1000000,.box (wC 31 v us' ots oc false st z pt du ry bas pv 0)),(31,zW 4 XT)]⟩) id (wkY (by cbv;repeat' first|exact trivial|exact lR|exact zR rfl (by rw[hXl,hUl];rfl)|exact zC rfl|exact zC hXe.symm|exact yN rfl|exact zO rfl|exact xC rfl|apply And.intro)) rfl okR (by rfl) okR ?_;exact lR};{cbv;refine rY (ps':=⟨[(4,iV 0)],[(1000000,.box (wC 31 v us' ots oc false st z pt du ry bas pv 0)),(31,zW 4 XT)]⟩) id (wkY (by cbv;repeat' first|exact trivial|exact lR|exact zR rfl (by rw[hXl,hUl];rfl)|exact zC rfl|exact zC hXe.symm|exact yN rfl|exact zO rfl|exact xC rfl|apply And.intro)) rfl okR (by rfl) okR ?_;exact lR}


structure PX (v:Nat) (fs:List F) (ob:F) (k n:Nat):Prop where
 lv:v<=4
 len:fs.length<=14
 rows:∀ f,f∈fs->f.fl k n/\f.wf (v:Int)
 obj:ob.fl k n/\ob.wf (v:Int)
 k1:1<=k
 k2:k<=500
 hn:n<2^20
section
variable {v k n:Nat} {fs:List F} {ob:F}
theorem PX.valid (h:PX v fs ob k n):(prg v fs ob).valid=true:=by have:=h.lv;have:=h.len;unfold Prg.valid;show (decide (0<=(v:Int)/\(v:Int)<=1280/\(fs.map fA).length<=4096)&&(fA ob).valid (v:Int)&&(fs.map fA).all (A.valid (v:Int)))=true;rw[decide_eq_true (by rw[yH];omega),h.obj.2.valid,Hx λf hf=>(h.rows f hf).2];rfl
theorem PX.sz (h:PX v fs ob k n):(prg v fs ob).sz k where
 rows:=⟨by show (fs.map fA).length<_;rw[yH];have:=h.len;omega,λa ha=>by obtain⟨f,hf,rfl⟩:=y9.1 ha;exact ((h.rows f hf).1.fit (by have:=h.hn;omega)).fA⟩
 ob:=(h.obj.1.fit (by have:=h.hn;omega)).fA
end
theorem DO (v r:Nat)(D:Dic)(p:Nat)(hw:D.wf)(hn:D.nb.length<2^28)(hb:D.bs.length<2^28)(hf:D.fit (2^30))(hW:wrs v D<0):Sound 166 [.ptr 1000000 0] (fK v r D p) (fE D) (.tup [.nil,zM true]) (fK v r D p) (fE D):=by
 refine xB C5 rfl rfl rfl rfl rfl ?_;have hlf:=hw.len;have hpos:=(F4 v D).1 hW;clear hW;cbv;refine zY (σ:=Nat) (λi=>⟨[(1,.ptr 1 0),(4,iV (-1)),(23,zT 1000001 1 D.bs.length),(24,iV D.bs.length),(25,iV i)],fK v r D p++fE D++[(1,.box [.ptr 1000000 0])]⟩)
  (λi=>i<=D.bs.length) (λi=>D.bs.length-i) 0 (xO _) (wkW) ?_
 intro i hi;cbv;refine zG (λh=>?_) (λh=>?_)
 ·(have hi:i<D.bs.length:=om;obtain⟨y,hyi⟩:=yZ hi;have hp:=hpos i hi;rw[getD_some hyi] at hp;clear hpos;obtain⟨c,hc⟩:=ex (D.cst i);rw[hc] at hp;have fc:Fits (2^30) c:=by rw[<-hc];exact Bj hf (by decide) i D.nb.length);obtain⟨C,hC⟩:=ex (zK c)
  (have szC:C.sz (2^30):=by rw[<-hC];exact z5 fc);have qC:C.q=c:=by rw[<-hC];exact yD c
  (have csc:=s86 C (by have:=szC.n;omega);rw[qC] at csc;have hneg:yG c<0->c<0:=by unfold yG;split <;> (try split) <;> intro _ <;> first|assumption|omega|(exfalso;omega)|grind);have cfr:=b9 v r D p y
  (have cco:=Q9 v r D p i hw oM oM;rw[hc,hC] at cco;have hle:i+1<=D.bs.length:=hi;have hmu:D.bs.length-(i+1)<D.bs.length-i:=by omega);generalize yG c=sc at *
  cbv;refine⟨z9 om om,?_⟩;refine lI hyi om ?_;cbv;refine zP 25 (by cbv) ?_;cbv;refine bD Nh okA cfr okR rfl rfl rfl rfl rfl rfl ?_;cbv;refine zX (λh1=>?_) (λh1=>?_);{cbv;refine⟨zE om om,?_⟩;cbv;exact⟨i+1,hle,hmu,wkW⟩}
  (have hyv:v<=y:=by exact om);cbv
  refine bD Nh okA cco okR rfl rfl rfl rfl rfl rfl ?_;cbv;refine dA csc ?_;cbv;refine yF (λh2=>hp hyv (hneg h2)) ?_;cbv;refine⟨zE om om,?_⟩;cbv;exact⟨i+1,hle,hmu,wkW⟩
 cbv;refine xD (by decide) ?_;cbv;refine rY (ps':=⟨[(2,.nil),(3,.tt)],fK v r D p++fE D⟩) id (wkW) rfl okR (by rfl) okR ?_;cbv;exact okA
end Go.Proofs.YtboocdbmnfjomaaGreat
