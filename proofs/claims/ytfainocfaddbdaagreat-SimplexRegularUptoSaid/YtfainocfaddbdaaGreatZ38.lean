/- A part of the proof: SyN, SzA, SyO, SxN. -/
import Derived.Test.YtfainocfaddbdaaGreatZ36
import Derived.Test.YtfainocfaddbdaaGreatZ34
import Derived.Test.YtfainocfaddbdaaGreatZ31
import Derived.Test.YtfainocfaddbdaaGreatZ25
import Derived.Test.YtfainocfaddbdaaGreatZ24
set_option linter.all false
namespace Go.Proofs.YtfainocfaddbdaaGreat
open Go
set_option maxRecDepth 100000
set_option maxHeartbeats 4000000
def tL (v r : Nat) (D : Dic) : List (Nat × Obj') :=
  [(1000000, .box [.int .i64 (fun _ => (v : Int)), .int .i64 (fun _ => (r : Int)), .osl 1000001 1 (fun _ => 0) (fun _ => D.bs.length), .osl 1000002 1 (fun _ => 0) (fun _ => D.nb.length), .osl 1000003 1 (fun _ => 0) (fun _ => D.fs.length), .nil, .int .i64 (fun _ => 0)]),
   (1000001, .arr 1 (fun _ => enc ci D.bs)), (1000002, .arr 1 (fun _ => enc ci D.nb)), (1000003, .mat 3 (fun _ => D.fs.map (enc cq)) [])]
theorem zNP (v r:Nat):y8 [[.int .i64 (fun _=>(v:Int)+(r:Int))]]=enc ci [v+r]:=by show [[D.int .i64 ((v:Int)+(r:Int))]]=[[D.int .i64 ((v+r:Nat):Int)]];rw[Int.natCast_add]
def mQ:List (Int×Rat)->List Rat->List Rat
 |[],l=>l| t::r,l=>mQ r (l.set t.1.toNat t.2)
def lnS (n:Nat) (f:F):List Rat:=(mQ f.ts (List.replicate (n+1) 0)).set n f.c
theorem aD:∀ {ts:List (Int×Rat)} {l:List Rat},(mQ ts l).length=l.length
 |[],_=>rfl| t::r,l=>by rw[mQ,aD,List.length_set]
theorem zJL (v r:Nat)(D:Dic)(ts:List (Int×Rat))(c:Rat)(TS:List (Int×R))(C:R)(hTS:tR ts=TS)(hC:zL c=C)(W:List Rat)(hW:mQ ts (List.replicate (D.nb.length+1) 0)=W)(hn:D.nb.length<2^30)(hl:ts.length<2^30)(hr:∀ t,t∈ts->0<=t.1/\t.1<D.nb.length):Sound 85 [.ptr 1000000 0,.agg [tsv TS,.bool (fun _=>C.neg),nat C.num,nat C.den]] (tL v r D) [] (.osl 5 3 (fun _=>0) (fun _=>D.nb.length+1)) (tL v r D) [(5,.arr 3 (fun _=>enc cq (W.set D.nb.length c)))]:=by
 refine sF Tryz.f85 ?_;have hWl:W.length=D.nb.length+1:=by rw[<-hW,aD,List.length_replicate]
 have htl:=vM ts;rw[hTS] at htl;cbv;refine⟨zD om om,yR om om,wL om om,?_⟩;refine z9 (σ:=Nat×List Rat) (fun s=>⟨[(3,.ptr 3 0),(5,.osl 14 3 (fun _=>0) (fun _=>D.nb.length+1)),(16,tsv TS),(17,.int .i64 (fun _=>(ts.length:Int))),(18,.int .i64 (fun _=>(s.1:Int)))],tL v r D++[(3,.box [tsv TS,.bool (fun _=>C.neg),nat C.num,nat C.den]),(14,.arr 3 (fun _=>enc cq s.2))]⟩)
  (fun s=>s.1<=ts.length/\s.2.length=D.nb.length+1/\W=mQ (ts.drop s.1) s.2) (fun s=>ts.length-s.1)
  (0,List.replicate (D.nb.length+1) 0) ⟨by omega,by simp,hW.symm⟩ (.le (by cbv;repeat' first|exact trivial|exact lR|exact zC (by (try dsimp only [zJ] at *);rw[zN];omega)|exact yB rfl (by show Int.toNat _=_;omega)|apply And.intro) (by cbv;repeat' first|exact trivial|exact lR|exact zB rfl|exact⟨rfl⟩|exact zB (by show List.replicate (Int.toNat _) _=_;rw[show Int.toNat ((D.nb.length:Int)+1)=D.nb.length+1 by omega];exact gD _)|apply And.intro) rfl) ?_
 intro s hs;obtain⟨i,l⟩:=s;obtain⟨g1,g2,g3⟩:=hs;dsimp only at g1 g2 g3;cbv;refine zF (fun h=>?_) (fun h=>?_)
 ·(dsimp only at h;have hi:i<ts.length:=om;obtain⟨t,ht⟩:=zT hi;rw[jO ht,mQ] at g3;obtain⟨y,q⟩:=t;obtain⟨hy0,hyn⟩:=hr _ (List.mem_of_getElem? ht);dsimp only at hy0 hyn g3;obtain⟨k,hk⟩:∃ k:Nat,y.toNat=k:=⟨_,rfl⟩;rw[hk] at g3;obtain⟨Q,hQ⟩:∃ Q,zL q=Q:=⟨_,rfl⟩;have hTi:TS[i]?=some (y,Q):=by rw[<-hTS,<-hQ];unfold tR;rw[List.getElem?_map,ht];rfl);obtain⟨x,hx⟩:=zT (show k<l.length by (try dsimp only [zJ] at *);omega)
  (obtain⟨X,hX⟩:∃ X,zL x=X:=⟨_,rfl⟩;have hle:i+1<=ts.length:=hi;have hmu:ts.length-(i+1)<ts.length-i:=by omega);cbv
  refine uM hTi qJ jI ?_;cbv;refine⟨zS om om,?_⟩;refine jF hx om hX ?_;cbv;refine⟨zD om om,?_⟩;cbv;exact⟨(i+1,l.set k q),⟨hle,by rw[List.length_set];exact g2,g3⟩,hmu,.le okZ (by cbv;repeat' first|exact trivial|exact lR|exact zB rfl|exact⟨rfl⟩|exact zB (by show (enc cq l).set (0+Int.toNat y) _=enc cq (l.set k q);rw[Nat.zero_add,hk];exact bI hQ)|apply And.intro) rfl⟩
 ·(dsimp only at h;have hi:i=ts.length:=by (try dsimp only [zJ] at *);omega);have hWe:l=W:=by rw[g3,hi,List.drop_length];rfl
  subst hWe;cbv;obtain⟨x,hx⟩:=zT (show D.nb.length<l.length by omega);obtain⟨X,hX⟩:∃ X,zL x=X:=⟨_,rfl⟩;refine⟨zD om om,?_⟩;cbv;refine⟨zS om om,?_⟩;refine jF hx om hX ?_;cbv;refine pM (ps':=⟨[(4,.osl 14 3 (fun _=>0) (fun _=>D.nb.length+1))],tL v r D++[(14,.arr 3 (fun _=>enc cq (l.set D.nb.length c)))]⟩) (fun n=>match nqb n 5 with|true=>14|false=>n)
   (.le okZ (by
    cbv
    repeat' first|exact trivial|exact lR|exact zB rfl|exact⟨rfl⟩|exact zB (by show (enc cq l).set (0+Int.toNat _) _=enc cq (l.set D.nb.length c);rw[Nat.zero_add,show Int.toNat (((D.nb.length+1:Nat):Int)-1)=D.nb.length by omega];exact bI hC)|apply And.intro) rfl) rfl (by exact⟨⟨rfl,rfl⟩,⟨rfl,rfl⟩,⟨rfl,rfl⟩,⟨rfl,rfl⟩,⟨rfl,rfl⟩,trivial⟩) (by rfl) (by exact⟨⟨rfl,by omega⟩,⟨rfl,by omega⟩,⟨rfl,by omega⟩,⟨rfl,by omega⟩,trivial⟩) ?_
  exact lR
theorem zGQ (v r:Nat)(D:Dic)(f:F)(hn:D.nb.length<2^30)(hl:f.ts.length<2^30)(hr:∀ t,t∈f.ts->0<=t.1/\t.1<D.nb.length):Sound 85 [.ptr 1000000 0,fv f] (tL v r D) [] (.osl 5 3 (fun _=>0) (fun _=>D.nb.length+1)) (tL v r D) [(5,.arr 3 (fun _=>enc cq (lnS D.nb.length f)))] :=
 zJL v r D f.ts f.c _ _ rfl rfl _ rfl hn hl hr
structure Prg where
 v:Int
 rows:List A
 ob:A
abbrev pgv (P:Prg):PV:=.agg [.int .i64 (fun _=>P.v),alv P.rows,tsv P.ob.ts,.bool (fun _=>P.ob.c.neg),nat P.ob.c.num,nat P.ob.c.den]
structure Prg.sz (P:Prg) (k:Nat):Prop where
 rows:Asz k P.rows
 ob:P.ob.sz k
theorem Prg.sz.mono {k m:Nat}{P:Prg}(h:P.sz k)(hm:k<=m):P.sz m:=⟨h.rows.mono hm,h.ob.mono hm⟩
def Prg.valid (P:Prg):Bool:=decide (0<=P.v/\P.v<=1280/\P.rows.length<=4096)&&P.ob.valid P.v&&P.rows.all (A.valid P.v)
theorem zJQ (P:Prg)(hP:P.sz (2^32)):zH 46 [pgv P] (.bool (fun _=>P.valid)):=by
 refine sF Tryz.f46 ?_;obtain⟨n,us,ob⟩:=P;have hus:=hP.rows;have hc:∀ a,a∈us->zH 80 [av a,.int .i64 (fun _=>n)] (.bool (fun _=>a.valid n)):=fun a h=>zDE a n ((hus.sz a h).mono (by decide));have co:=zDE ob n (hP.ob.mono (by decide));have hul:=hus.len;dsimp only at hul;generalize hr:Prg.valid ⟨n,us,ob⟩=r;have hr0:r=(decide (0<=n/\n<=1280/\us.length<=4096)&&ob.valid n&&us.all (A.valid n)):=hr.symm;generalize ob.valid n=bo at *
 obtain⟨ots,oc⟩:=ob;have hf:¬(0<=n/\n<=1280/\us.length<=4096)->r=false:=fun h=>by rw[hr0,decide_eq_false h];rfl
 have ht:(0<=n/\n<=1280/\us.length<=4096)->r=(bo&&us.all (A.valid n)):=fun h=>by rw[hr0,decide_eq_true h,Bool.true_and]
 clear hr hr0 hus hP;cbv;refine yO (fun e1=>?_) (fun e1=>?_)
 ·cbv
  (refine rC ?_;cbv)
  exact zQ (hf okQ)
 cbv;refine yO (fun e2=>?_) (fun e2=>?_)
 ·cbv
  (refine rC ?_;cbv)
  exact zQ (hf okQ)
 cbv;refine yO (fun e3=>?_) (fun e3=>?_)
 ·cbv
  (refine rC ?_;cbv)
  exact zQ (hf okQ)
 have hv:=ht okQ;clear ht hf e1 e2 e3;cbv;refine cA co ?_;cbv;refine yZ (fun e4=>?_) (fun e4=>?_)
 rotate_left
 ·cbv
  (refine rC ?_;cbv)
  exact zQ (by rw[hv,e4];rfl)
 rw[e4,Bool.true_and] at hv;cbv;refine z9 (σ:=Nat) (fun i=>⟨[(1,.ptr 1 0),(28,alv us),(29,.int .i64 (fun _=>(us.length:Int))),(30,.int .i64 (fun _=>(i:Int)))],[(1,.box [.int .i64 (fun _=>n),alv us,tsv ots,.bool (fun _=>oc.neg),nat oc.num,nat oc.den])]⟩) (fun i=>i<=us.length/\r=(us.drop i).all (A.valid n)) (fun i=>us.length-i) 0 ⟨by omega,by rw[hv];rfl⟩ (.le (by cbv;repeat' first|exact trivial|exact lR|exact zC (by (try dsimp only [zJ] at *);rw[zN];omega)|exact zC (by (try dsimp only [zJ] at *);rw[zN])|apply And.intro) okZ rfl) ?_;clear hv;intro i hi;obtain⟨h1,h2⟩:=hi;cbv;refine zF (fun h5=>?_) (fun h5=>?_)
 ·have hlt:i<us.length:=om;obtain⟨a,ha⟩:=j5 hlt;have cv:=hc a (List.mem_of_getElem? ha);rw[kR ha,List.all_cons] at h2;generalize a.valid n=pa at *
  cbv;refine uM ha sN m6 ?_;cbv;refine cA cv ?_;cbv;refine yZ (fun e=>?_) (fun e=>?_);{cbv;refine⟨zD om om,?_⟩;cbv;exact⟨i+1,⟨om,by rw[h2,e,Bool.true_and]⟩,om,wkZ⟩}
  ·cbv
   (refine rC ?_;cbv)
   exact zQ (by rw[h2,e];rfl)
 ·have he:i=us.length:=om;rw[he,List.drop_length] at h2;cbv
  (refine rC ?_;cbv)
  exact zV h2
theorem zN2 (P:Prg)(hP:P.sz (2^32)):zH 24 [pgv P] (.bool (fun _=>P.valid)):=by
 refine sF Tryz.f24 ?_;obtain⟨n,us,ob⟩:=P;have hus:=hP.rows;have hc:∀ a,a∈us->zH 66 [av a,.int .i64 (fun _=>n)] (.bool (fun _=>a.valid n)):=fun a h=>sR7V a n (hus.sz a h);have co:=sR7V ob n hP.ob;have hul:=hus.len;dsimp only at hul;generalize hr:Prg.valid ⟨n,us,ob⟩=r;have hr0:r=(decide (0<=n/\n<=1280/\us.length<=4096)&&ob.valid n&&us.all (A.valid n)):=hr.symm;generalize ob.valid n=bo at *
 obtain⟨ots,oc⟩:=ob;have hf:¬(0<=n/\n<=1280/\us.length<=4096)->r=false:=fun h=>by rw[hr0,decide_eq_false h];rfl
 have ht:(0<=n/\n<=1280/\us.length<=4096)->r=(bo&&us.all (A.valid n)):=fun h=>by rw[hr0,decide_eq_true h,Bool.true_and]
 clear hr hr0 hus hP;cbv;refine yO (fun e1=>?_) (fun e1=>?_)
 ·cbv
  (refine rC ?_;cbv)
  exact zQ (hf okQ)
 cbv;refine yO (fun e2=>?_) (fun e2=>?_)
 ·cbv
  (refine rC ?_;cbv)
  exact zQ (hf okQ)
 cbv;refine yO (fun e3=>?_) (fun e3=>?_)
 ·cbv
  (refine rC ?_;cbv)
  exact zQ (hf okQ)
 have hv:=ht okQ;clear ht hf e1 e2 e3;cbv;refine cA co ?_;cbv;refine yZ (fun e4=>?_) (fun e4=>?_)
 rotate_left
 ·cbv
  (refine rC ?_;cbv)
  exact zQ (by rw[hv,e4];rfl)
 rw[e4,Bool.true_and] at hv;cbv;refine z9 (σ:=Nat) (fun i=>⟨[(1,.ptr 1 0),(3,.int .i64 (fun _=>(i:Int)))],[(1,.box [.int .i64 (fun _=>n),alv us,tsv ots,.bool (fun _=>oc.neg),nat oc.num,nat oc.den])]⟩) (fun i=>i<=us.length/\r=(us.drop i).all (A.valid n)) (fun i=>us.length-i) 0 ⟨by omega,by rw[hv];rfl⟩ (wkZ) ?_;clear hv;intro i hi;obtain⟨h1,h2⟩:=hi;cbv;refine zF (fun h5=>?_) (fun h5=>?_)
 ·have hlt:=rV h5;obtain⟨a,ha⟩:=j5 hlt;have cv:=hc a (List.mem_of_getElem? ha);rw[kR ha,List.all_cons] at h2;generalize a.valid n=pa at *
  cbv;refine zZ 7 (by cbv) ?_;cbv;refine uM ha sN m6 ?_;cbv;refine cA cv ?_;cbv;refine yZ (fun e=>?_) (fun e=>?_);{cbv;exact⟨zD om om,i+1,⟨om,by rw[h2,e,Bool.true_and]⟩,om,wkZ⟩}
  ·cbv
   (refine rC ?_;cbv)
   exact zQ (by rw[h2,e];rfl)
 ·have he:=zCU h5 h1;rw[he,List.drop_length] at h2;cbv
  (refine rC ?_;cbv)
  exact zV h2
theorem zKN {t base x d ps0 ps K b z s}{m m':Nat}{o len o' len':Unit->Nat}{rows rows':Unit->List (List (List D))}(hw:Wk ps0 ps)(ht:ty t=.sli 1 b z)(hb:ev (zA ps.tmps) base=.osl m 1 o len)(ho:z8 ps.objs m=some (.mat s rows []))(h0:o ()=0)(hl:len ()=(rows ()).length) (hx:ev (zA ps.tmps) x=.osl m' 1 o' len') (ho':z8 ps.objs m'=some (.mat s rows' [])) (h0':o' ()=0) (hl':len' ()=(rows' ()).length) (hmm:nqb m m'=false) (hp:0<(rows' ()).length) (hr:Room (fun _=>(((rows ()).length+(rows' ()).length:Nat):Int)) b) (hf:yE m ⟨xZ (scr m') (xZ (scr m) ps.tmps),yU (scr m') (xE (yU (scr m) (xE ps.objs m)) m')⟩=true) (hK:K ⟨w5 (xZ (scr m') (xZ (scr m) ps.tmps)) d (.osl m 1 (fun _=>0) (fun _=>(rows ()).length+(rows' ()).length)),yU (scr m') (xE (yU (scr m) (xE ps.objs m)) m')++[(m,.mat s (fun _=>rows ()++rows' ()) [])]⟩):AppK t base x (some d) ps0 K :=
 ⟨.inr ⟨ps,d,m,b,z,m,m',s,o,len,rows,o',len',rows',hw,rfl,ht,hb,ho,h0,hl,hx,ho',h0',hl',hmm,⟨hp⟩,hr,hf,hK⟩⟩
theorem zQH:ty 74=.sli 1 24 [.nil]:=by cbv
def sO (v r : Nat) (D : Dic) : List (Nat × Obj') :=
  [(13, .box [.int .i64 (fun _ => (v : Int)), .int .i64 (fun _ => (r : Int)), .osl 48 1 (fun _ => 0) (fun _ => D.bs.length), .osl 26 1 (fun _ => 0) (fun _ => D.nb.length), .osl 60 1 (fun _ => 0) (fun _ => D.fs.length), .osl 68 3 (fun _ => 0) (fun _ => D.ob.length), .int .i64 (fun _ => ((0 : Nat) : Int))]),
   (48, .arr 1 (fun _ => enc ci D.bs)), (26, .arr 1 (fun _ => enc ci D.nb)), (60, .mat 3 (fun _ => D.fs.map (enc cq)) []), (68, .arr 3 (fun _ => enc cq D.ob))]
theorem n6 (n:Nat)(f:F):(lnS n f).length=n+1:=by unfold lnS;rw[List.length_set,aD,List.length_replicate]
theorem zJK (v:Nat)(fs:List F)(ob:F)(hv:v<2^28)(hr:fs.length<2^28)(hfl:∀ f,f∈fs->f.ts.length<2^30/\∀ t,t∈f.ts->0<=t.1/\t.1<v)(hol:ob.ts.length<2^30)(hot:∀ t,t∈ob.ts->0<=t.1/\t.1<v):Sound 47 [pgv ⟨v,fs.map fA,fA ob⟩] [] [] (.ptr 13 0) [] (sO v fs.length (zY v (fs.map (lnS v)) (lnS v ob))):=by
 refine sF Tryz.f47 ?_;obtain⟨US,hUS⟩:∃ US,fs.map fA=US:=⟨_,rfl⟩;have hUl:US.length=fs.length:=by rw[<-hUS,List.length_map]
 obtain⟨n,hn⟩:∃ n,US.length=n:=⟨_,rfl⟩;rw[hn] at hUl;have hL0:(lnS v ob).length=v+1:=n6 v ob;obtain⟨L0,hL0e⟩:∃ L0,lnS v ob=L0:=⟨_,rfl⟩;have cob:∀ (r:Nat) (D:Dic),D.nb.length=v->Sound 85 [.ptr 1000000 0,fv ob] (tL v r D) [] (.osl 5 3 (fun _=>0) (fun _=>v+1)) (tL v r D) [(5,.arr 3 (fun _=>enc cq L0))]:=fun r D h=>by have:=zGQ v r D ob (by omega) hol (fun t ht=>by rw[h];exact hot t ht);rw[h,hL0e] at this;exact this
 rw[hL0e] at hL0;have cli:∀ (k:Nat) (f:F) (r:Nat) (D:Dic),fs[k]?=some f->D.nb.length=v->Sound 85 [.ptr 1000000 0,fv f] (tL v r D) [] (.osl 5 3 (fun _=>0) (fun _=>v+1)) (tL v r D) [(5,.arr 3 (fun _=>enc cq (lnS v f)))]:=fun k f r D hf h=>by have hm:=hfl f (List.mem_of_getElem? hf);have:=zGQ v r D f (by omega) hm.1 (fun t ht=>by rw[h];exact hm.2 t ht);rw[h] at this;exact this
 obtain⟨A0,hA0⟩:∃ A0,fA ob=A0:=⟨_,rfl⟩;rw[show fv ob=av (fA ob) from rfl,hA0] at cob;show wp _ ⟨sS 0 [.agg [.int .i64 (fun _=>(v:Int)),.sl (fun _=>enc ac (fs.map fA)),tsv (fA ob).ts,.bool (fun _=>(fA ob).c.neg),nat (fA ob).c.num,nat (fA ob).c.den]],_⟩ _;rw[hA0,hUS];obtain⟨ots,oc⟩:=A0;obtain⟨SO,hSO⟩:∃ SO,sO v fs.length (zY v (fs.map (lnS v)) (lnS v ob))=SO:=⟨_,rfl⟩;rw[hSO];cbv;refine z9 (σ:=Nat) (fun i=>⟨[(1,.ptr 1 0),(3,.ptr 13 0),(15,.int .i64 (fun _=>(v:Int))),(16,.int .i64 (fun _=>(i:Int)))],[(1,.box [.int .i64 (fun _=>(v:Int)),alv US,tsv ots,.bool (fun _=>oc.neg),nat oc.num,nat oc.den]),(13,.box [.int .i64 (fun _=>(v:Int)),.int .i64 (fun _=>(n:Int)),.nil,.osl 26 1 (fun _=>0) (fun _=>i),.nil,.nil,.int .i64 (fun _=>0)]),(26,.arr 1 (fun _=>enc ci (List.range i)))]⟩)
  (fun i=>i<=v) (fun i=>v-i) 0 (Nat.zero_le _)
  (.trans (.le (ps':=⟨[(1,.ptr 1 0),(3,.ptr 13 0),(15,.int .i64 (fun _=>(v:Int))),(16,.int .i64 (fun _=>((0:Nat):Int)))],[(1,.box [.int .i64 (fun _=>(v:Int)),alv US,tsv ots,.bool (fun _=>oc.neg),nat oc.num,nat oc.den]),(13,.box [.int .i64 (fun _=>(v:Int)),.int .i64 (fun _=>(n:Int)),.nil,.nil,.nil,.nil,.int .i64 (fun _=>0)])]⟩) okZ (by cbv;repeat' first|exact trivial|exact lR|exact zC (by (try dsimp only [zJ] at *);rw[zN,hn])|apply And.intro) rfl)
  (.trans (.adoptB (ps:=⟨[(1,.ptr 1 0),(3,.ptr 13 0),(15,.int .i64 (fun _=>(v:Int))),(16,.int .i64 (fun _=>((0:Nat):Int)))],[(1,.box [.int .i64 (fun _=>(v:Int)),alv US,tsv ots,.bool (fun _=>oc.neg),nat oc.num,nat oc.den]),(13,.box [.int .i64 (fun _=>(v:Int)),.int .i64 (fun _=>(n:Int)),.nil,.nil,.nil,.nil,.int .i64 (fun _=>0)])]⟩) 26 1 13 3 rfl rfl rfl) (wkZ))) ?_
 intro i hi;cbv;refine zF (fun h=>?_) (fun h=>?_)
 ·(have hiv:i<v:=om;have hEr:enc ci (List.range i)++y8 [[.int .i64 (fun _=>(i:Int))]]=enc ci (List.range (i+1)):=by rw[List.range_succ,<-bA];rfl);have hEl:(enc ci (List.range i)).length=i:=by rw[zN,List.length_range]
  (have hle:i+1<=v:=hiv;have hmu:v-(i+1)<v-i:=by omega);obtain⟨X,hX⟩:∃ X,enc ci (List.range i)=X:=⟨_,rfl⟩
  (rw[hX] at hEr hEl;obtain⟨Y,hY⟩:∃ Y,enc ci (List.range (i+1))=Y:=⟨_,rfl⟩;rw[hY] at hEr;cbv;rw[hX];refine v7 zFN rfl rfl rfl hEl.symm rfl ⟨by simp[y8,x4]⟩ (yR (by simp[y8] <;> omega) (by simp[y8];rw[hEl];(try dsimp only [zJ] at *);omega)) rfl ?_;cbv;refine⟨zD om om,?_⟩;cbv;have hml:(y8 [[PV.int .i64 (fun _=>(i:Int))]]).length=1:=rfl;have hYl:Y.length=i+1:=by rw[<-hEr,List.length_append,hEl,hml]);exact⟨i+1,hle,hmu,.le okZ (by cbv;repeat' first|exact trivial|exact lR|exact yB rfl (by rw[hEl,hml])|exact zB (by rw[hEr];exact hY.symm)|apply And.intro) rfl⟩
 ·(have hiv:i=v:=om;subst hiv;obtain⟨v,hvi⟩:∃ v,v=i:=⟨_,rfl⟩;subst hvi;clear h hi;obtain⟨NB,hNB⟩:∃ NB,List.range v=NB:=⟨_,rfl⟩;have hNl:NB.length=v:=by rw[<-hNB,List.length_range]);have hNe:enc ci (List.range v)=enc ci NB:=by rw[hNB]
  (obtain⟨BS,hBS⟩:∃ BS,BS=fun k=>(List.range k).map (v+·):=⟨_,rfl⟩;have hBl:∀ k,(BS k).length=k:=fun k=>by rw[hBS];simp);have hB0:BS 0=[]:=by rw[hBS];rfl
  (have hB1:∀ k,BS (k+1)=BS k++[v+k]:=fun k=>by rw[hBS];show (List.range (k+1)).map _=_;rw[List.range_succ,List.map_append];rfl);obtain⟨FS,hFS⟩:∃ FS,FS=fun k=>(fs.take k).map (lnS v):=⟨_,rfl⟩
  (have hF0:FS 0=[]:=by rw[hFS];rfl);have hFl:∀ k,k<=fs.length->(FS k).length=k:=fun k hk=>by rw[hFS];show ((fs.take k).map _).length=k;rw[List.length_map,List.length_take];omega
  (have hF1:∀ k f,fs[k]?=some f->FS (k+1)=FS k++[lnS v f]:=fun k f hf=>by rw[hFS];show (fs.take (k+1)).map _=_;rw[List.take_add_one,hf,List.map_append];rfl);have hend:SO=sO v fs.length ⟨BS fs.length,NB,FS fs.length,L0⟩:=by rw[<-hSO,hBS,hFS,<-hNB];dsimp only;rw[List.take_length,hL0e];unfold zY;rw[List.length_map]
  clear hBS hFS hSO hNB;cbv;refine z9 (σ:=Nat) (fun k=>⟨[(1,.ptr 1 0),(3,.ptr 13 0),(31,alv US),(32,.int .i64 (fun _=>(n:Int))),(33,.int .i64 (fun _=>(k:Int)))],[(1,.box [.int .i64 (fun _=>(v:Int)),alv US,tsv ots,.bool (fun _=>oc.neg),nat oc.num,nat oc.den]),(13,.box [.int .i64 (fun _=>(v:Int)),.int .i64 (fun _=>(n:Int)),.osl 48 1 (fun _=>0) (fun _=>(BS k).length),.osl 26 1 (fun _=>0) (fun _=>NB.length),.osl 60 1 (fun _=>0) (fun _=>(FS k).length),.nil,.int .i64 (fun _=>0)]),(26,.arr 1 (fun _=>enc ci NB)),(48,.arr 1 (fun _=>enc ci (BS k))),(60,.mat 3 (fun _=>(FS k).map (enc cq)) [])]⟩)
   (fun k=>k<=n) (fun k=>n-k) 0 (Nat.zero_le _)
   (.trans (.le (ps':=⟨[(1,.ptr 1 0),(3,.ptr 13 0),(31,alv US),(32,.int .i64 (fun _=>(n:Int))),(33,.int .i64 (fun _=>((0:Nat):Int)))],[(1,.box [.int .i64 (fun _=>(v:Int)),alv US,tsv ots,.bool (fun _=>oc.neg),nat oc.num,nat oc.den]),(13,.box [.int .i64 (fun _=>(v:Int)),.int .i64 (fun _=>(n:Int)),.nil,.osl 26 1 (fun _=>0) (fun _=>v),.nil,.nil,.int .i64 (fun _=>0)]),(26,.arr 1 (fun _=>enc ci NB))]⟩) (by cbv;repeat' first|exact trivial|exact lR|exact zC (by (try dsimp only [zJ] at *);rw[zN,hn])|apply And.intro) (by cbv;repeat' first|exact trivial|exact lR|exact zB rfl|exact yB rfl hNl.symm|exact zB hNe|apply And.intro) rfl)
   (.trans (.adoptB (ps:=⟨[(1,.ptr 1 0),(3,.ptr 13 0),(31,alv US),(32,.int .i64 (fun _=>(n:Int))),(33,.int .i64 (fun _=>((0:Nat):Int)))],[(1,.box [.int .i64 (fun _=>(v:Int)),alv US,tsv ots,.bool (fun _=>oc.neg),nat oc.num,nat oc.den]),(13,.box [.int .i64 (fun _=>(v:Int)),.int .i64 (fun _=>(n:Int)),.nil,.osl 26 1 (fun _=>0) (fun _=>v),.nil,.nil,.int .i64 (fun _=>0)]),(26,.arr 1 (fun _=>enc ci NB))]⟩) 48 1 13 2 rfl rfl rfl)
   (.trans (wkZ (ps':=⟨[(1,.ptr 1 0),(3,.ptr 13 0),(31,alv US),(32,.int .i64 (fun _=>(n:Int))),(33,.int .i64 (fun _=>((0:Nat):Int)))],[(1,.box [.int .i64 (fun _=>(v:Int)),alv US,tsv ots,.bool (fun _=>oc.neg),nat oc.num,nat oc.den]),(13,.box [.int .i64 (fun _=>(v:Int)),.int .i64 (fun _=>(n:Int)),.osl 48 1 (fun _=>0) (fun _=>0),.osl 26 1 (fun _=>0) (fun _=>v),.nil,.nil,.int .i64 (fun _=>0)]),(26,.arr 1 (fun _=>enc ci NB)),(48,.arr 1 (fun _=>[]))]⟩))
   (.trans (.adoptM (ps:=⟨[(1,.ptr 1 0),(3,.ptr 13 0),(31,alv US),(32,.int .i64 (fun _=>(n:Int))),(33,.int .i64 (fun _=>((0:Nat):Int)))],[(1,.box [.int .i64 (fun _=>(v:Int)),alv US,tsv ots,.bool (fun _=>oc.neg),nat oc.num,nat oc.den]),(13,.box [.int .i64 (fun _=>(v:Int)),.int .i64 (fun _=>(n:Int)),.osl 48 1 (fun _=>0) (fun _=>0),.osl 26 1 (fun _=>0) (fun _=>v),.nil,.nil,.int .i64 (fun _=>0)]),(26,.arr 1 (fun _=>enc ci NB)),(48,.arr 1 (fun _=>[]))]⟩) 60 3 13 4 rfl rfl rfl)
   (.le okZ (by cbv;repeat' first|exact trivial|exact lR|exact zB rfl|exact yB rfl (by rw[hB0];rfl)|exact yB rfl (by rw[hF0];rfl)|exact yB rfl hNl.symm|exact zB hNe|exact zB (by rw[hB0];rfl)|exact⟨by rw[hF0];rfl⟩|apply And.intro) rfl))))) ?_
  intro k hk;cbv;refine zF (fun h=>?_) (fun h=>?_)
  ·(have hkU:k<n:=om;obtain⟨f,hf⟩:=zT (show k<fs.length by omega);have hUk:US[k]?=some (fA f):=by rw[<-hUS,List.getElem?_map,hf];rfl);obtain⟨Ln,hLn⟩:∃ Ln,lnS v f=Ln:=⟨_,rfl⟩
   (have hLl:Ln.length=v+1:=by rw[<-hLn,n6]);have hFk:=hF1 k f hf
   (have hBk:=hB1 k;have hFkl:=hFl k (by omega);have hBkl:=hBl k;have cln:=cli k f n ⟨BS (k+1),NB,FS k,[]⟩ hf hNl;rw[hLn] at cln hFk;obtain⟨a,ha⟩:∃ a,fA f=a:=⟨_,rfl⟩;rw[ha] at hUk cln;obtain⟨ats,ac0⟩:=a;have hFl1:(FS (k+1)).length=(FS k).length+1:=by rw[hFk,List.length_append];rfl);have hBl1:(BS (k+1)).length=(BS k).length+1:=by rw[hBk,List.length_append];rfl
   have hBe:enc ci (BS k)++y8 [[.int .i64 (fun _=>(v:Int)+(k:Int))]]=enc ci (BS (k+1)):=by rw[hBk,<-bA];exact congrArg (enc ci (BS k)++·) (zNP v k)
   (have hBe2:(enc ci (BS k)).length=(BS k).length:=zN _ _;have hLe1:(enc cq Ln).length=v+1:=by rw[zN,hLl]);have hle:k+1<=n:=hkU
   (have hmu:n-(k+1)<n-k:=by omega);obtain⟨B1,hB1e⟩:∃ B1,BS (k+1)=B1:=⟨_,rfl⟩
   (obtain⟨F1,hF1e⟩:∃ F1,FS (k+1)=F1:=⟨_,rfl⟩;rw[hB1e] at hBe hBl1 cln;rw[hF1e] at hFk hFl1;obtain⟨B0,hB0e⟩:∃ B0,BS k=B0:=⟨_,rfl⟩;obtain⟨F0,hF0e⟩:∃ F0,FS k=F0:=⟨_,rfl⟩;rw[hB0e] at hBe hBl1 hBe2 hBkl;rw[hF0e] at hFk hFl1 cln hFkl;have hFe:F0.map (enc cq)++[enc cq Ln]=F1.map (enc cq):=by rw[hFk,List.map_append];rfl);cbv
   rw[hB0e,hF0e];refine uM hUk sN m6 ?_;cbv;refine lD 11 [(10,48)] (by cbv) (by cbv) ?_;cbv;refine⟨zD om om,?_⟩;cbv;refine zBY zFN rfl ⟨by simp[y8,x4]⟩ rfl hBe2.symm (yR (by simp[y8] <;> omega) (by simp[y8];rw[hBe2];(try dsimp only [zJ] at *);omega)) ?_;cbv;refine tP (σ:=Unit) (fun _=>⟨[(1,.ptr 1 0),(3,.ptr 13 0),(31,alv US),(32,.int .i64 (fun _=>(n:Int))),(33,.int .i64 (fun _=>(k:Int)))],[(1,.box [.int .i64 (fun _=>(v:Int)),alv US,tsv ots,.bool (fun _=>oc.neg),nat oc.num,nat oc.den]),(13,.box [.int .i64 (fun _=>(v:Int)),.int .i64 (fun _=>(n:Int)),.osl 48 1 (fun _=>0) (fun _=>B1.length),.osl 26 1 (fun _=>0) (fun _=>NB.length),.osl 60 1 (fun _=>0) (fun _=>F1.length),.nil,.int .i64 (fun _=>0)]),(26,.arr 1 (fun _=>enc ci NB)),(48,.arr 1 (fun _=>enc ci B1)),(60,.mat 3 (fun _=>F1.map (enc cq)) [])]⟩) (fun _=>True) (.le (ps':=⟨[(1,.ptr 1 0),(3,.ptr 13 0),(6,.ptr 6 0),(31,alv US),(32,.int .i64 (fun _=>(n:Int))),(33,.int .i64 (fun _=>(k:Int)))],[(1,.box [.int .i64 (fun _=>(v:Int)),alv US,tsv ots,.bool (fun _=>oc.neg),nat oc.num,nat oc.den]),(13,.box [.int .i64 (fun _=>(v:Int)),.int .i64 (fun _=>(n:Int)),.osl 48 1 (fun _=>0) (fun _=>B1.length),.osl 26 1 (fun _=>0) (fun _=>NB.length),.osl 60 1 (fun _=>0) (fun _=>F0.length),.nil,.int .i64 (fun _=>0)]),(26,.arr 1 (fun _=>enc ci NB)),(48,.arr 1 (fun _=>enc ci B1)),(60,.mat 3 (fun _=>F0.map (enc cq)) []),(6,.box [tsv ats,.bool (fun _=>ac0.neg),nat ac0.num,nat ac0.den])]⟩) okZ (by cbv;repeat' first|exact trivial|exact lR|exact zB rfl|exact⟨rfl⟩|exact yB rfl (by rw[hBe2,hBl1];rfl)|exact zB hBe|apply And.intro) rfl) (by cbv) ?_ ?_
   ·cbv
    repeat' first
     |exact trivial
     |(refine y0 (fun n=>match nqb n 1000000 with|true=>13|false=>match nqb n 1000001 with|true=>48|false=>match nqb n 1000002 with|true=>26|false=>match nqb n 1000003 with|true=>60|false=>58) (.refl _) rfl okA cln (by exact⟨⟨rfl,rfl⟩,⟨rfl,rfl⟩,⟨rfl,rfl⟩,⟨rfl,rfl⟩,trivial⟩) rfl rfl rfl rfl rfl rfl rfl rfl ?_;cbv)
     |(refine zKN (.unfocus 59 58 [] [] rfl rfl rfl ⟨rfl,hLe1.symm⟩) zQH rfl rfl rfl (by show F0.length=(F0.map (enc cq)).length;rw[List.length_map]) rfl rfl rfl rfl rfl (by show 0<1;decide) (yR om (by show (((F0.map (enc cq)).length+1:Nat):Int)*_<=_;rw[List.length_map];(try dsimp only [zJ] at *);omega)) rfl ?_;cbv)
     |exact⟨(),trivial,.le okZ (by cbv;repeat' first|exact trivial|exact lR|exact zB rfl|exact⟨rfl⟩|exact yB rfl (by show F1.length=(F0.map (enc cq)).length+1;rw[List.length_map];exact hFl1)|exact yB rfl (by show (F0.map (enc cq)).length+1=F1.length;rw[List.length_map];exact hFl1.symm)|exact⟨hFe⟩|apply And.intro) rfl⟩
     |apply And.intro
    done
   intro _ _;cbv;refine⟨zD om om,?_⟩;cbv;exact⟨k+1,hle,hmu,.le okZ (by cbv;rw[hB1e,hF1e];repeat' first|exact trivial|exact lR|exact zB rfl|exact⟨rfl⟩|apply And.intro) rfl⟩
  ·(have hkU:k=n:=om;have hkf:k=fs.length:=by omega);rw[<-hkf] at hend
   obtain⟨B0,hB0e⟩:∃ B0,BS k=B0:=⟨_,rfl⟩;obtain⟨F0,hF0e⟩:∃ F0,FS k=F0:=⟨_,rfl⟩;have c0:=cob n ⟨B0,NB,F0,[]⟩ hNl;rw[hB0e,hF0e] at hend;subst hend;cbv;rw[hB0e,hF0e];refine y0 (fun n=>match nqb n 1000000 with|true=>13|false=>match nqb n 1000001 with|true=>48|false=>match nqb n 1000002 with|true=>26|false=>match nqb n 1000003 with|true=>60|false=>68) (.refl _) rfl okA c0 (by exact⟨⟨rfl,rfl⟩,⟨rfl,rfl⟩,⟨rfl,rfl⟩,⟨rfl,rfl⟩,trivial⟩) rfl rfl rfl rfl rfl rfl rfl rfl ?_;cbv;refine pM (ps':=⟨[(2,.ptr 13 0)],sO v k ⟨B0,NB,F0,L0⟩⟩) id (.le okZ (by cbv;repeat' first|exact trivial|exact lR|exact zB rfl|exact⟨rfl⟩|exact zC om|exact yB rfl hL0.symm|apply And.intro) rfl) rfl (by exact⟨⟨rfl,rfl⟩,⟨rfl,rfl⟩,⟨rfl,rfl⟩,⟨rfl,rfl⟩,⟨rfl,rfl⟩,trivial⟩) (by rfl) (by exact trivial) ?_;exact lR
theorem zIF {l m:List Nat}(hl:l.Nodup)(hm:m.Nodup)(h:∀ x,x∈l↔x∈m):l.length=m.length :=
 ((List.perm_ext_iff_of_nodup hl hm).2 h).length_eq
theorem zMT {D E:Dic}(hD:D.wf)(hE:E.wf)(hs:Same E D)(hn:E.nb.length=D.nb.length):E.bs.length=D.bs.length:=by have:=zIF hE.nd hD.nd (fun v=>by rw[List.mem_append,List.mem_append];exact hs.vars v);rw[List.length_append,List.length_append] at this;omega
theorem zDQ {k c:Nat}{x:Rat}{l:List Rat}(h:lfit k l)(hx:Fits k x):lfit k (ins c x l):=fun y hy=>by unfold ins at hy;rcases List.mem_append.1 hy with q|q;{exact h y (List.mem_of_mem_take q)};{rcases List.mem_cons.1 q with q|q;{rw[q];exact hx};{exact h y (List.mem_of_mem_drop q)}}
theorem zLE {k:Nat}(hk:1<=k):Fits k 1:=fits_one.mono hk
theorem zEL {v c k:Nat}(hk:1<=k):∀ {bs:List Nat} {ls:List (List Rat)},(∀ l,l∈ls->lfit k l)->∀ l,l∈oO v c bs ls->lfit k l
 |[],_,_,l,hl=>by unfold oO at hl;exact absurd hl (by simp)| b::bs,[],_,l,hl=>by unfold oO at hl;exact absurd hl (by simp)| b::bs,m::ls,h,l,hl=>by unfold oO at hl;rcases List.mem_cons.1 hl with q|q;{rw[q];refine zDQ (h m List.mem_cons_self) ?_;split;{exact y5 hk};{exact zLE hk}};{exact zEL hk (fun l hl=>h l (List.mem_cons_of_mem _ hl)) l q}
theorem Dic.aux_fit {D:Dic}{v a k:Nat}(h:D.fit k)(hk:1<=k):(D.aux v a).fit k:=⟨fun l hl=>zEL hk h.fs l hl,zDQ h.ob (y5 hk)⟩
theorem cB {k n:Nat}(hk:1<=k):lfit k (List.replicate n 0):=fun c hc=>by rw[List.eq_of_mem_replicate hc];exact y5 hk
theorem eX {v r k:Nat}{l:List Rat}(hk:1<=k)(h:lfit k l):∀ {ys:List Nat} {j:Nat} {o:List Rat},lfit k o->lfit k (kF v r l ys j o)
 |[],_,_,ho=>ho| y::ys,j,o,ho=>by rw[kF];refine eX hk h ?_;split;{exact lfit.set ho (h.getD hk j) _};{exact ho}
theorem zEC {v r k:Nat}{nb:List Nat}{l:List Rat}(hk:1<=k)(h:lfit k l):lfit k (tM v r nb l):=eX hk h (cB hk)
theorem mF {v k:Nat}{f:Nat->Rat}(h:∀ i,Fits k (f i)):∀ {ys:List Nat} {i:Nat} {x:List Rat},lfit k x->lfit k (dE v f ys i x)
 |[],_,_,hx=>hx| b::bs,i,x,hx=>by rw[dE];refine mF h ?_;split;{exact lfit.set hx (h i) _};{exact hx}
theorem zBO {v k:Nat}{D:Dic}(hk:1<=k)(h:D.fit k):lfit k (pnt v D):=mF (fun i=>by unfold Dic.cst;exact eK h hk i _) (cB hk)
theorem zDH {v k m e:Nat}{D:Dic}{c:Rat}(hk:1<=k)(h:D.fit k)(hc:Fits m c):lfit (m+k) (cV v D e c):=by refine mF (fun i=>wU hc (eK h hk i _)) ?_;split;{exact lfit.set (cB (by omega)) (hc.mono (by omega)) _};{exact cB (by omega)}
structure Walk (v r K:Nat) (D0 D1:Dic) (p1:Nat):Prop where
 wf:D1.wf
 bl:D1.bs.length=r
 nl:D1.nb.length=v
 pp:p1<=v
 ys:∀ y,y∈D1.bs\/y∈D1.nb->y<v+r
 fit:D1.fit K
 aux:¬wrs v D1<0->∀ E,Pvs (D1.aux v (v+r)) E->E.fit K
 some:∀ l,(vF v r D1 p1).2.2.1=some l->l≠[]/\lfit K l
 ok:(vF v r D1 p1).2.2.2=true
 q:(vF v r D1 p1).2.1<=65536
 none:(vF v r D1 p1).2.2.1=none->(vF v r D1 p1).1.wf/\(vF v r D1 p1).1.bs.length=r/\(vF v r D1 p1).1.nb.length=v/\(∀ y,y∈(vF v r D1 p1).1.bs\/y∈(vF v r D1 p1).1.nb->y<v+r)/\∀ F,Pvs (vF v r D1 p1).1 F->F.fit K
def zF9 (v r K:Nat) (D:Dic):Prop:=¬wrs v D<0->∀ E,Pvs (D.aux v (v+r)) E->E.fit K
theorem o6 {v r K p:Nat}{D:Dic}(hw:D.wf)(hw2:∀ y,y∈D.bs\/y∈D.nb->y<v+r)(hk:1<=K)(ha:zF9 v r K D){l:List Rat}(h:(vF v r D p).2.2.1=some l):lfit K l:=by
 have hws:=r8 v D;unfold vF at h;split at h;{cases h}
 ·rename_i hn;have ha:=ha hn;obtain⟨w1,w2,w3,w4⟩:=hws.2 (by omega);generalize (wrs v D).toNat=w at *
  (have hwl:=w1;have hat:(D.aux v (v+r)).at w D.nb.length≠0:=by rw[Dic.aux_at hw hwl,if_neg (by omega),if_pos rfl,if_neg (by omega)];decide);have hp3:Pvs (D.aux v (v+r)) ((D.aux v (v+r)).piv w D.nb.length):=.step .refl hwl (by show _<(D.nb++[v+r]).length;simp) hat
  generalize (D.aux v (v+r)).piv w D.nb.length=D3 at *
  unfold zI3 at h;have hmp:=(aB (v:=v) (ln:=vio (v+r)) (65537-(p+1)) D3 (p+1)).1;generalize wR v (vio (v+r)) (65537-(p+1)) D3 (p+1)=R at *
  obtain⟨E,q,e,ok⟩:=R;cases ok with
  |false=>cases h
  |true =>
   dsimp only at h;split at h
   ·cases h;refine zEC hk ?_;unfold vio;split
    ·have hf:=ha E (hp3.trans hmp);rw[List.getD_eq_getElem?_getD];cases hg:E.fs[(wO E.bs (v+r)).toNat]? with
     |none=>exact fun c hc=>absurd hc (by simp)| some m=>exact hf.fs m (List.mem_of_getElem? hg)
    {exact lfit.set (cB hk) (zLE hk) _}
   {split at h <;> cases h}
theorem zMA {v K k:Nat}{rows:List (List Rat)}{ob:List Rat}(hr:∀ l,l∈rows->l.length=v+1)(ho:ob.length=v+1)(hp:v+1+2^(rows.length+1)+2^rows.length<=65537)(hk:1<=k)(hf:(zY v rows ob).fit k)(hK:5^v*k<=K) (hA:∀ D1,Pvs (zY v rows ob) D1->zF9 v rows.length K D1):(∀ E,Pvs (zY v rows ob) E->E.fit K)/\Walk v rows.length K (zY v rows ob) (rel v (zY v rows ob).nb 0 (zY v rows ob,0)).1 (rel v (zY v rows ob).nb 0 (zY v rows ob,0)).2:=by
 have hw0:=jX hr ho;have hnl:(zY v rows ob).nb.length=v:=by simp[zY]
 have hbl:(zY v rows ob).bs.length=rows.length:=by simp[zY]
 have hrel:=dY (v:=v) hw0 (zY v rows ob).nb 0 (zY v rows ob,0) rfl (Nat.zero_le _) .refl (fun e he=>absurd he (by omega));have hK1:1<=K:=Nat.le_trans (Nat.le_trans hk (Nat.le_mul_of_pos_left k (Nat.pow_pos (by decide)))) hK;have f0:∀ E,E.wf->Same E (zY v rows ob)->(∀ X,(zY v rows ob).Sat X->E.val X=(zY v rows ob).val X)->E.fit K:=fun E h1 h2 h3=>(zDB hw0 h1 h2.symm (fun X hX=>(h3 X hX).symm) hk hf (by rw[hnl];exact Nat.le_refl _)).mono hK;have f1:∀ E,Pvs (zY v rows ob) E->E.fit K:=fun E hE=>f0 E (hE.wf hw0) (hE.same hw0) fun X hX=>hE.val hw0 hX;refine⟨f1,?_⟩;generalize rel v (zY v rows ob).nb 0 (zY v rows ob,0)=R1 at *
 obtain⟨D1,p1⟩:=R1;obtain⟨q1,q2,q3⟩:=hrel;dsimp only at q1 q2 q3 ⊢;rw[hnl] at q2 q3;have hw1:=q1.wf hw0;have hs1:=q1.same hw0;have hl1:=q1.len;have hpos:0<2^rows.length:=Nat.pow_pos (by decide);have hy1:∀ y,y∈D1.bs\/y∈D1.nb->y<v+rows.length:=fun y hy=>by rcases (hs1.vars y).1 hy with q|q;{obtain⟨k,hk,rfl⟩:=List.mem_map.1 q;have:=List.mem_range.1 hk;omega};{have:=List.mem_range.1 q;omega}
 have hfe:=zHC (v:=v) (r:=rows.length) (p:=p1) hw1 (by rw[hl1.2,hnl];exact q2) hy1 (by omega);have hfew:=hfe.few;refine⟨hw1,by rw[hl1.1,hbl],by rw[hl1.2,hnl],by omega,hy1,f1 D1 q1,hA D1 q1,fun l hl=>⟨fun e=>?_,o6 hw1 hy1 hK1 (hA D1 q1) hl⟩,hfe.ok,by omega,fun hn=>?_⟩;{obtain⟨a1,a2,c,a3,a4⟩:=hfe.some l hl;have:=a4 _ (Dic.ext_sat hw1 (fun _=>0));rw[e] at this;unfold j8 at this;rw[Rat.zero_add] at this;rw[this] at a3;exact absurd a3 (by decide)}
 ·have hE:=hfe.none hn;generalize (vF v rows.length D1 p1).1=E at *
  have hsE:=hE.same.trans hs1;refine⟨hE.wf,by rw[zMT hw1 hE.wf hE.same hE.nl,hl1.1,hbl],by rw[hE.nl,hl1.2,hnl],fun y hy=>hy1 y ((hE.same.vars y).1 hy),fun F hF=>?_⟩;exact f0 F (hF.wf hE.wf) ((hF.same hE.wf).trans hsE) fun X hX=>(hF.val hE.wf ((hsE.sat X).2 hX)).trans ((hE.val X ((hs1.sat X).2 hX)).trans (q1.val hw0 hX))
theorem zIV {v K k:Nat}{rows:List (List Rat)}{ob:List Rat}(hr:∀ l,l∈rows->l.length=v+1)(ho:ob.length=v+1)(hk:1<=k)(hf:(zY v rows ob).fit k)(hK:5^(v+1)*(5^v*k)<=K):∀ D1,Pvs (zY v rows ob) D1->zF9 v rows.length K D1:=fun D1 h1 _ E hE=>by
 have hw0:=jX hr ho;have hnl:(zY v rows ob).nb.length=v:=by simp[zY]
 have hw1:=h1.wf hw0;have hf1:=h1.fit hw0 hk hf (n:=v) (by rw[hnl];exact Nat.le_refl _);have hk1:1<=5^v*k:=Nat.le_trans hk (Nat.le_mul_of_pos_left k (Nat.pow_pos (by decide)));have hs1:=h1.same hw0;have hy1:∀ y,y∈D1.bs\/y∈D1.nb->y<v+rows.length:=fun y hy=>by rcases (hs1.vars y).1 hy with q|q;{obtain⟨k,hk,rfl⟩:=List.mem_map.1 q;have:=List.mem_range.1 hk;omega};{have:=List.mem_range.1 q;omega}
 have hwa:=Dic.aux_wf (v:=v) (a:=v+rows.length) hw1 (fun q=>by have:=hy1 _ (.inl q);omega) (fun q=>by have:=hy1 _ (.inr q);omega);exact (hE.fit hwa hk1 (Dic.aux_fit hf1 hk1) (n:=v+1) (by show (D1.nb++[_]).length<=_;rw[List.length_append,h1.len.2,hnl];exact Nat.le_refl _)).mono hK
structure SolFit (K:Nat) (s:SolR):Prop where
 val:Fits K s.val
 pt:lfit K s.pt
 du:lfit K s.du
 ry:lfit (K+1) s.ry
theorem zC8 (c:Rat):Fits 1 (((-(yX c):Int)):Rat):=by refine aJ ?_ (Nat.le_refl 1);unfold yX;split;{decide};{split <;> decide}
theorem aE {k:Nat}:lfit k []:=fun c hc=>absurd hc (by simp)
theorem zAG {v r K:Nat}{D0:Dic}(hK1:1<=K)(W:Walk v r K D0 (rel v D0.nb 0 (D0,0)).1 (rel v D0.nb 0 (D0,0)).2){s:SolR}(hs:cS v r D0=some s):SolFit K s:=by
 have Ws:=W.some;have Wn:=W.none;unfold cS at hs;generalize vF v r (rel v D0.nb 0 (D0,0)).1 (rel v D0.nb 0 (D0,0)).2=R2 at *
 obtain⟨E,q,ref,ok⟩:=R2;dsimp only at Ws Wn;cases ok with
 |false=>cases hs
 |true =>
  cases ref with
  |some l =>
   cases hs;exact⟨y5 hK1,aE,(Ws l rfl).2,aE⟩
  |none =>
   obtain⟨hwE,_,_,_,hfE⟩:=Wn rfl;dsimp only at hs;split at hs;{cases hs;exact⟨y5 hK1,zBO hK1 (hfE E .refl),aE,(zDH hK1 (hfE E .refl) (zC8 _)).mono (by omega)⟩}
   ·have hm:=(aB (v:=v) (ln:=Dic.ob) (65537-q) E q).1;generalize wR v Dic.ob (65537-q) E q=R3 at *
    obtain⟨F,q',e,ok⟩:=R3;have hfF:=hfE F hm;cases ok with
    |false=>cases hs
    |true =>
     dsimp only at hs;split at hs;{cases hs;exact⟨y5 hK1,zBO hK1 hfF,aE,(zDH hK1 hfF fits_one).mono (by omega)⟩};{cases hs;exact⟨hfF.ob.getD hK1 _,zBO hK1 hfF,zEC hK1 hfF.ob,aE⟩}
end Go.Proofs.YtfainocfaddbdaaGreat
