/- A part of the proof: SyN, SzA, SyO, SxN, SyQ. -/
import Derived.Test.YtfainocfaddbdaaGreatT35
import Derived.Test.YtfainocfaddbdaaGreatT33
import Derived.Test.YtfainocfaddbdaaGreatT30
import Derived.Test.YtfainocfaddbdaaGreatT25
import Derived.Test.YtfainocfaddbdaaGreatT24
import Derived.Test.YtfainocfaddbdaaGreatT36
set_option linter.all false
namespace Go.Proofs.YtfainocfaddbdaaGreat
open Go
set_option maxRecDepth 100000
set_option maxHeartbeats 4000000
def tL (v r : Nat) (D : Dic) : List (Nat × Obj') :=
  [(1000000, .box [.int .i64 (fun _ => (v : Int)), .int .i64 (fun _ => (r : Int)), .osl 1000001 1 (fun _ => 0) (fun _ => D.bs.length), .osl 1000002 1 (fun _ => 0) (fun _ => D.nb.length), .osl 1000003 1 (fun _ => 0) (fun _ => D.fs.length), .nil, .int .i64 (fun _ => 0)]),
   (1000001, .arr 1 (fun _ => enc ci D.bs)), (1000002, .arr 1 (fun _ => enc ci D.nb)), (1000003, .mat 3 (fun _ => D.fs.map (enc cq)) [])]
theorem zLQ (v r:Nat):yV [[.int .i64 (fun _=>(v:Int)+(r:Int))]]=enc ci [v+r]:=by show [[D.int .i64 ((v:Int)+(r:Int))]]=[[D.int .i64 ((v+r:Nat):Int)]];rw[Int.natCast_add]
def t9:List (Int×Rat)->List Rat->List Rat
 |[],l=>l| t::r,l=>t9 r (l.set t.1.toNat t.2)
def lnS (n:Nat) (f:F):List Rat:=(t9 f.ts (List.replicate (n+1) 0)).set n f.c
theorem bS:∀ {ts:List (Int×Rat)} {l:List Rat},(t9 ts l).length=l.length
 |[],_=>rfl| t::r,l=>by rw[t9,bS,List.length_set]
theorem zIA (v r:Nat)(D:Dic)(ts:List (Int×Rat))(c:Rat)(TS:List (Int×R))(C:R)(hTS:tR ts=TS)(hC:zS c=C)(W:List Rat)(hW:t9 ts (List.replicate (D.nb.length+1) 0)=W)(hn:D.nb.length<2^30)(hl:ts.length<2^30)(hr:∀ t,t∈ts->0<=t.1/\t.1<D.nb.length):Sound 85 [.ptr 1000000 0,.agg [tsv TS,.bool (fun _=>C.neg),nat C.num,nat C.den]] (tL v r D) [] (.osl 5 3 (fun _=>0) (fun _=>D.nb.length+1)) (tL v r D) [(5,.arr 3 (fun _=>enc cq (W.set D.nb.length c)))]:=by
 refine sF Tryz.f85 ?_;have hWl:W.length=D.nb.length+1:=by rw[<-hW,bS,List.length_replicate]
 have htl:=j1 ts;rw[hTS] at htl;cbv;refine⟨zE om om,yJ om om,wM om om,?_⟩;refine yB (σ:=Nat×List Rat) (fun s=>⟨[(3,.ptr 3 0),(5,.osl 14 3 (fun _=>0) (fun _=>D.nb.length+1)),(16,tsv TS),(17,.int .i64 (fun _=>(ts.length:Int))),(18,.int .i64 (fun _=>(s.1:Int)))],tL v r D++[(3,.box [tsv TS,.bool (fun _=>C.neg),nat C.num,nat C.den]),(14,.arr 3 (fun _=>enc cq s.2))]⟩)
  (fun s=>s.1<=ts.length/\s.2.length=D.nb.length+1/\W=t9 (ts.drop s.1) s.2) (fun s=>ts.length-s.1)
  (0,List.replicate (D.nb.length+1) 0) ⟨by omega,by simp,hW.symm⟩ (.le (by cbv;repeat' first|exact trivial|exact lR|exact zC (by (try dsimp only [zJ] at *);rw[zO];omega)|exact z5 rfl (by show Int.toNat _=_;omega)|apply And.intro) (by cbv;repeat' first|exact trivial|exact lR|exact zA rfl|exact⟨rfl⟩|exact zA (by show List.replicate (Int.toNat _) _=_;rw[show Int.toNat ((D.nb.length:Int)+1)=D.nb.length+1 by omega];exact jJ _)|apply And.intro) rfl) ?_
 intro s hs;obtain⟨i,l⟩:=s;obtain⟨g1,g2,g3⟩:=hs;dsimp only at g1 g2 g3;cbv;refine zF (fun h=>?_) (fun h=>?_)
 ·(dsimp only at h;have hi:i<ts.length:=om;obtain⟨t,ht⟩:=zV hi;rw[d8 ht,t9] at g3;obtain⟨y,q⟩:=t;obtain⟨hy0,hyn⟩:=hr _ (List.mem_of_getElem? ht);dsimp only at hy0 hyn g3;obtain⟨k,hk⟩:∃ k:Nat,y.toNat=k:=⟨_,rfl⟩;rw[hk] at g3;obtain⟨Q,hQ⟩:∃ Q,zS q=Q:=⟨_,rfl⟩;have hTi:TS[i]?=some (y,Q):=by rw[<-hTS,<-hQ];unfold tR;rw[List.getElem?_map,ht];rfl);obtain⟨x,hx⟩:=zV (show k<l.length by (try dsimp only [zJ] at *);omega)
  (obtain⟨X,hX⟩:∃ X,zS x=X:=⟨_,rfl⟩;have hle:i+1<=ts.length:=hi;have hmu:ts.length-(i+1)<ts.length-i:=by omega);cbv
  refine dD hTi jL gP ?_;cbv;refine⟨zQ om om,?_⟩;refine k7 hx om hX ?_;cbv;refine⟨zE om om,?_⟩;cbv;exact⟨(i+1,l.set k q),⟨hle,by rw[List.length_set];exact g2,g3⟩,hmu,.le okZ (by cbv;repeat' first|exact trivial|exact lR|exact zA rfl|exact⟨rfl⟩|exact zA (by show (enc cq l).set (0+Int.toNat y) _=enc cq (l.set k q);rw[Nat.zero_add,hk];exact cX hQ)|apply And.intro) rfl⟩
 ·(dsimp only at h;have hi:i=ts.length:=by (try dsimp only [zJ] at *);omega);have hWe:l=W:=by rw[g3,hi,List.drop_length];rfl
  subst hWe;cbv;obtain⟨x,hx⟩:=zV (show D.nb.length<l.length by omega);obtain⟨X,hX⟩:∃ X,zS x=X:=⟨_,rfl⟩;refine⟨zE om om,?_⟩;cbv;refine⟨zQ om om,?_⟩;refine k7 hx om hX ?_;cbv;refine u6 (ps':=⟨[(4,.osl 14 3 (fun _=>0) (fun _=>D.nb.length+1))],tL v r D++[(14,.arr 3 (fun _=>enc cq (l.set D.nb.length c)))]⟩) (fun n=>match nqb n 5 with|true=>14|false=>n)
   (.le okZ (by
    cbv
    repeat' first|exact trivial|exact lR|exact zA rfl|exact⟨rfl⟩|exact zA (by show (enc cq l).set (0+Int.toNat _) _=enc cq (l.set D.nb.length c);rw[Nat.zero_add,show Int.toNat (((D.nb.length+1:Nat):Int)-1)=D.nb.length by omega];exact cX hC)|apply And.intro) rfl) rfl (by exact⟨⟨rfl,rfl⟩,⟨rfl,rfl⟩,⟨rfl,rfl⟩,⟨rfl,rfl⟩,⟨rfl,rfl⟩,trivial⟩) (by rfl) (by exact⟨⟨rfl,by omega⟩,⟨rfl,by omega⟩,⟨rfl,by omega⟩,⟨rfl,by omega⟩,trivial⟩) ?_
  exact lR
theorem zFN (v r:Nat)(D:Dic)(f:F)(hn:D.nb.length<2^30)(hl:f.ts.length<2^30)(hr:∀ t,t∈f.ts->0<=t.1/\t.1<D.nb.length):Sound 85 [.ptr 1000000 0,fv f] (tL v r D) [] (.osl 5 3 (fun _=>0) (fun _=>D.nb.length+1)) (tL v r D) [(5,.arr 3 (fun _=>enc cq (lnS D.nb.length f)))] :=
 zIA v r D f.ts f.c _ _ rfl rfl _ rfl hn hl hr
structure Prg where
 v:Int
 rows:List A
 ob:A
def pgc (P:Prg):List PV:=[.int .i64 (fun _=>P.v),alv P.rows,tsv P.ob.ts,.bool (fun _=>P.ob.c.neg),nat P.ob.c.num,nat P.ob.c.den]
abbrev pgv (P:Prg):PV:=.agg [.int .i64 (fun _=>P.v),alv P.rows,tsv P.ob.ts,.bool (fun _=>P.ob.c.neg),nat P.ob.c.num,nat P.ob.c.den]
structure Prg.sz (P:Prg) (k:Nat):Prop where
 rows:Asz k P.rows
 ob:P.ob.sz k
theorem Prg.sz.mono {k m:Nat}{P:Prg}(h:P.sz k)(hm:k<=m):P.sz m:=⟨h.rows.mono hm,h.ob.mono hm⟩
def Prg.valid (P:Prg):Bool:=decide (0<=P.v/\P.v<=1280/\P.rows.length<=4096)&&P.ob.valid P.v&&P.rows.all (A.valid P.v)
def R.small (x:R):Bool:=decide (x.num.length<=2/\x.den.length<=2)&&x.ok
def A.small (a:A):Bool:=decide (a.ts.length<=8)&&a.c.small&&a.valid 1048576&&a.ts.all (fun t=>t.2.small)
def tG (l:List A) (m:Int):Bool:=decide ((l.length:Int)<=m)&&l.all A.small
def Prg.small (P:Prg):Bool:=decide (P.v<=4)&&tG P.rows 8&&P.ob.small&&P.valid
theorem zAD:Pg.funcs[46]?=some Tryz.f46:=by rw[xX];rfl
theorem zCK (P:Prg)(hP:P.sz (2^32)):zM 46 [pgv P] (.bool (fun _=>P.valid)):=by
 refine yH zAD rfl rfl rfl rfl rfl ?_;obtain⟨n,us,ob⟩:=P;have hus:=hP.rows;have hc:∀ a,a∈us->zM 80 [av a,.int .i64 (fun _=>n)] (.bool (fun _=>a.valid n)):=fun a h=>gU a n ((hus.sz a h).mono (by decide));have co:=gU ob n (hP.ob.mono (by decide));have hul:=hus.len;dsimp only at hul;generalize hr:Prg.valid ⟨n,us,ob⟩=r;have hr0:r=(decide (0<=n/\n<=1280/\us.length<=4096)&&ob.valid n&&us.all (A.valid n)):=hr.symm;generalize ob.valid n=bo at *
 obtain⟨ots,oc⟩:=ob;have hf:¬(0<=n/\n<=1280/\us.length<=4096)->r=false:=fun h=>by rw[hr0,decide_eq_false h];rfl
 have ht:(0<=n/\n<=1280/\us.length<=4096)->r=(bo&&us.all (A.valid n)):=fun h=>by rw[hr0,decide_eq_true h,Bool.true_and]
 clear hr hr0 hus hP;cbv;refine yG (fun e1=>?_) (fun e1=>?_)
 ·cbv
  (refine rC ?_;cbv)
  exact zL (hf okQ)
 cbv;refine yG (fun e2=>?_) (fun e2=>?_)
 ·cbv
  (refine rC ?_;cbv)
  exact zL (hf okQ)
 cbv;refine yG (fun e3=>?_) (fun e3=>?_)
 ·cbv
  (refine rC ?_;cbv)
  exact zL (hf okQ)
 have hv:=ht okQ;clear ht hf e1 e2 e3;cbv;refine cA co ?_;cbv;refine z9 (fun e4=>?_) (fun e4=>?_)
 rotate_left
 ·cbv
  (refine rC ?_;cbv)
  exact zL (by rw[hv,e4];rfl)
 rw[e4,Bool.true_and] at hv;cbv;refine yB (σ:=Nat) (fun i=>⟨[(1,.ptr 1 0),(28,alv us),(29,.int .i64 (fun _=>(us.length:Int))),(30,.int .i64 (fun _=>(i:Int)))],[(1,.box [.int .i64 (fun _=>n),alv us,tsv ots,.bool (fun _=>oc.neg),nat oc.num,nat oc.den])]⟩) (fun i=>i<=us.length/\r=(us.drop i).all (A.valid n)) (fun i=>us.length-i) 0 ⟨by omega,by rw[hv];rfl⟩ (.le (by cbv;repeat' first|exact trivial|exact lR|exact zC (by (try dsimp only [zJ] at *);rw[zO];omega)|exact zC (by (try dsimp only [zJ] at *);rw[zO])|apply And.intro) okZ rfl) ?_;clear hv;intro i hi;obtain⟨h1,h2⟩:=hi;cbv;refine zF (fun h5=>?_) (fun h5=>?_)
 ·have hlt:i<us.length:=om;obtain⟨a,ha⟩:=dY hlt;have cv:=hc a (List.mem_of_getElem? ha);rw[vW ha,List.all_cons] at h2;generalize a.valid n=pa at *
  cbv;refine dD ha aX mK ?_;cbv;refine cA cv ?_;cbv;refine z9 (fun e=>?_) (fun e=>?_);{cbv;refine⟨zE om om,?_⟩;cbv;exact⟨i+1,⟨om,by rw[h2,e,Bool.true_and]⟩,om,wkZ⟩}
  ·cbv
   (refine rC ?_;cbv)
   exact zL (by rw[h2,e];rfl)
 ·have he:i=us.length:=om;rw[he,List.drop_length] at h2;cbv
  (refine rC ?_;cbv)
  exact zU h2
theorem zL1 (P:Prg)(hP:P.sz (2^32)):zM 24 [pgv P] (.bool (fun _=>P.valid)):=by
 refine sF Tryz.f24 ?_;obtain⟨n,us,ob⟩:=P;have hus:=hP.rows;have hc:∀ a,a∈us->zM 66 [av a,.int .i64 (fun _=>n)] (.bool (fun _=>a.valid n)):=fun a h=>sR7V a n (hus.sz a h);have co:=sR7V ob n hP.ob;have hul:=hus.len;dsimp only at hul;generalize hr:Prg.valid ⟨n,us,ob⟩=r;have hr0:r=(decide (0<=n/\n<=1280/\us.length<=4096)&&ob.valid n&&us.all (A.valid n)):=hr.symm;generalize ob.valid n=bo at *
 obtain⟨ots,oc⟩:=ob;have hf:¬(0<=n/\n<=1280/\us.length<=4096)->r=false:=fun h=>by rw[hr0,decide_eq_false h];rfl
 have ht:(0<=n/\n<=1280/\us.length<=4096)->r=(bo&&us.all (A.valid n)):=fun h=>by rw[hr0,decide_eq_true h,Bool.true_and]
 clear hr hr0 hus hP;cbv;refine yG (fun e1=>?_) (fun e1=>?_)
 ·cbv
  (refine rC ?_;cbv)
  exact zL (hf okQ)
 cbv;refine yG (fun e2=>?_) (fun e2=>?_)
 ·cbv
  (refine rC ?_;cbv)
  exact zL (hf okQ)
 cbv;refine yG (fun e3=>?_) (fun e3=>?_)
 ·cbv
  (refine rC ?_;cbv)
  exact zL (hf okQ)
 have hv:=ht okQ;clear ht hf e1 e2 e3;cbv;refine cA co ?_;cbv;refine z9 (fun e4=>?_) (fun e4=>?_)
 rotate_left
 ·cbv
  (refine rC ?_;cbv)
  exact zL (by rw[hv,e4];rfl)
 rw[e4,Bool.true_and] at hv;cbv;refine yB (σ:=Nat) (fun i=>⟨[(1,.ptr 1 0),(3,.int .i64 (fun _=>(i:Int)))],[(1,.box [.int .i64 (fun _=>n),alv us,tsv ots,.bool (fun _=>oc.neg),nat oc.num,nat oc.den])]⟩) (fun i=>i<=us.length/\r=(us.drop i).all (A.valid n)) (fun i=>us.length-i) 0 ⟨by omega,by rw[hv];rfl⟩ (wkZ) ?_;clear hv;intro i hi;obtain⟨h1,h2⟩:=hi;cbv;refine zF (fun h5=>?_) (fun h5=>?_)
 ·have hlt:=i4 h5;obtain⟨a,ha⟩:=dY hlt;have cv:=hc a (List.mem_of_getElem? ha);rw[vW ha,List.all_cons] at h2;generalize a.valid n=pa at *
  cbv;refine zZ 7 (by cbv) ?_;cbv;refine dD ha aX mK ?_;cbv;refine cA cv ?_;cbv;refine z9 (fun e=>?_) (fun e=>?_);{cbv;exact⟨zE om om,i+1,⟨om,by rw[h2,e,Bool.true_and]⟩,om,wkZ⟩}
  ·cbv
   (refine rC ?_;cbv)
   exact zL (by rw[h2,e];rfl)
 ·have he:=i5 h5 h1;rw[he,List.drop_length] at h2;cbv
  (refine rC ?_;cbv)
  exact zU h2
theorem zL2 (x:R)(hx:x.sz (2^32)):zM 108 [rv x] (.bool (fun _=>x.small)):=by
 refine sF Tryz.f108 ?_;have cv:=s129 x hx;generalize hr:R.small x=r;have hr0:r=(decide (x.num.length<=2/\x.den.length<=2)&&x.ok):=hr.symm;generalize x.ok=b at *
 obtain⟨a,n,d⟩:=x;dsimp only at hr0;have hf:¬(n.length<=2/\d.length<=2)->r=false:=fun h=>by rw[hr0,decide_eq_false h];rfl
 have ht:(n.length<=2/\d.length<=2)->r=b:=fun h=>by rw[hr0,decide_eq_true h,Bool.true_and]
 clear hr hr0 hx;cbv;refine yG (fun e1=>?_) (fun e1=>?_)
 rotate_left
 ·cbv
  (refine rC ?_;cbv)
  exact zL (hf okQ)
 cbv;refine yG (fun e2=>?_) (fun e2=>?_)
 rotate_left
 ·cbv
  (refine rC ?_;cbv)
  exact zL (hf okQ)
 have hv:=ht okQ;cbv;refine cA cv ?_;cbv
 (refine rC ?_;cbv)
 exact zI hv.symm
theorem zL3 (a:A)(ha:a.sz (2^32)):zM 61 [av a] (.bool (fun _=>a.small)):=by
 refine sF Tryz.f61 ?_;have cc:=zL2 a.c ha.c;have cv:=sR7V a 1048576 ha;generalize hr:A.small a=r;have hr0:r=(decide (a.ts.length<=8)&&a.c.small&&a.valid 1048576&&a.ts.all (fun t=>t.2.small)):=hr.symm;generalize a.c.small=sc at *
 generalize a.valid 1048576=va at *
 have hts:=ha.t.sz;have hl:=ha.t.len;obtain⟨ts,c⟩:=a;dsimp only at hr0 hts hl;have hs:∀ t,t∈ts->zM 108 [rv t.2] (.bool (fun _=>t.2.small)):=fun t ht=>zL2 t.2 (hts t ht);have hf:¬(ts.length<=8)->r=false:=fun h=>by rw[hr0,decide_eq_false h];rfl
 have ht:(ts.length<=8)->r=(sc&&va&&ts.all (fun t=>t.2.small)):=fun h=>by rw[hr0,decide_eq_true h,Bool.true_and]
 clear hr hr0 ha;cbv;refine yG (fun e1=>?_) (fun e1=>?_)
 ·cbv
  (refine rC ?_;cbv)
  exact zL (hf okQ)
 have hv:=ht okQ;clear hf ht e1;cbv;refine cA cc ?_;cbv;refine vA (fun e2=>?_) (fun e2=>?_)
 rotate_left
 ·cbv
  (refine rC ?_;cbv)
  exact zL (by rw[hv,e2];rfl)
 rw[e2,Bool.true_and] at hv;cbv;refine cA cv ?_;cbv;refine z9 (fun e3=>?_) (fun e3=>?_)
 rotate_left
 ·cbv
  (refine rC ?_;cbv)
  exact zL (by rw[hv,e3];rfl)
 rw[e3,Bool.true_and] at hv;cbv;refine yB (σ:=Nat) (fun i=>⟨[(1,.ptr 1 0),(3,.int .i64 (fun _=>(i:Int)))],[(1,.box [tsv ts,.bool (fun _=>c.neg),nat c.num,nat c.den])]⟩) (fun i=>i<=ts.length/\r=(ts.drop i).all (fun t=>t.2.small)) (fun i=>ts.length-i) 0 ⟨by omega,by rw[hv];rfl⟩ (wkZ) ?_;clear hv;intro i hi;obtain⟨h1,h2⟩:=hi;cbv;refine zF (fun h5=>?_) (fun h5=>?_)
 ·have hlt:=i4 h5;obtain⟨t,ht⟩:=dY hlt;have cv:=hs t (List.mem_of_getElem? ht);rw[vW ht,List.all_cons] at h2;generalize t.2.small=pa at *
  cbv;refine dD ht jL gP ?_;cbv;refine cA cv ?_;cbv;refine z9 (fun e=>?_) (fun e=>?_);{cbv;exact⟨zE om om,i+1,⟨om,by rw[h2,e,Bool.true_and]⟩,om,wkZ⟩}
  ·cbv
   (refine rC ?_;cbv)
   exact zL (by rw[h2,e];rfl)
 ·have he:=i5 h5 h1;rw[he,List.drop_length] at h2;cbv
  (refine rC ?_;cbv)
  exact zU h2
theorem zNG (us:List A)(m:Int)(ha:Asz (2^32) us):zM 60 [alv us,.int .i64 (fun _=>m)] (.bool (fun _=>tG us m)):=by
 refine sF Tryz.f60 ?_;generalize hr:tG us m=r;have hr0:r=(decide ((us.length:Int)<=m)&&us.all A.small):=hr.symm;have hts:=ha.sz;have hl:=ha.len;have hs:∀ t,t∈us->zM 61 [av t] (.bool (fun _=>t.small)):=fun t ht=>zL3 t (hts t ht);have hf:¬((us.length:Int)<=m)->r=false:=fun h=>by rw[hr0,decide_eq_false h];rfl
 have ht:((us.length:Int)<=m)->r=us.all A.small:=fun h=>by rw[hr0,decide_eq_true h,Bool.true_and]
 clear hr hr0 ha;cbv;refine zF (fun e1=>?_) (fun e1=>?_)
 ·cbv
  (refine rC ?_;cbv)
  exact zL (hf okQ)
 have hv:=ht okQ;clear hf ht e1;cbv;refine yB (σ:=Nat) (fun i=>⟨[(0,alv us),(5,.int .i64 (fun _=>(i:Int)))],[]⟩) (fun i=>i<=us.length/\r=(us.drop i).all A.small) (fun i=>us.length-i) 0 ⟨by omega,by rw[hv];rfl⟩ (wkZ) ?_;clear hv;intro i hi;obtain⟨h1,h2⟩:=hi;cbv;refine zF (fun h5=>?_) (fun h5=>?_)
 ·have hlt:=i4 h5;obtain⟨t,ht⟩:=dY hlt;have cv:=hs t (List.mem_of_getElem? ht);rw[vW ht,List.all_cons] at h2;generalize t.small=pa at *
  cbv;refine dD ht aX mK ?_;cbv;refine cA cv ?_;cbv;refine z9 (fun e=>?_) (fun e=>?_);{cbv;exact⟨zE om om,i+1,⟨om,by rw[h2,e,Bool.true_and]⟩,om,wkZ⟩}
  ·cbv
   (refine rC ?_;cbv)
   exact zL (by rw[h2,e];rfl)
 ·have he:=i5 h5 h1;rw[he,List.drop_length] at h2;cbv
  (refine rC ?_;cbv)
  exact zU h2
theorem zPD (P:Prg)(hP:P.sz (2^32)):zM 22 [pgv P] (.bool (fun _=>P.small)):=by
 refine sF Tryz.f22 ?_;have cv:=zL1 P hP;have cr:=zNG P.rows 8 hP.rows;have co:=zL3 P.ob hP.ob;generalize hr:P.small=r;have hr0:r=(decide (P.v<=4)&&tG P.rows 8&&P.ob.small&&P.valid):=hr.symm;generalize P.valid=pv at *
 generalize tG P.rows 8=ps at *
 generalize P.ob.small=po at *
 obtain⟨n,us,ob⟩:=P;obtain⟨ots,oc⟩:=ob;dsimp only at hr0 co cr;have hf:¬(n<=4)->r=false:=fun h=>by rw[hr0,decide_eq_false h];rfl
 have ht:(n<=4)->r=(ps&&po&&pv):=fun h=>by rw[hr0,decide_eq_true h,Bool.true_and]
 clear hr hr0 hP;cbv;refine yG (fun e1=>?_) (fun e1=>?_)
 rotate_left
 ·cbv
  (refine rC ?_;cbv)
  exact zL (hf okQ)
 have hv:=ht okQ;clear hf ht e1;cbv;refine cA cr ?_;cbv;refine vA (fun e2=>?_) (fun e2=>?_)
 rotate_left
 ·cbv
  (refine rC ?_;cbv)
  exact zL (by rw[hv,e2];rfl)
 rw[e2,Bool.true_and] at hv;cbv;refine cA co ?_;cbv;refine vA (fun e3=>?_) (fun e3=>?_)
 rotate_left
 ·cbv
  (refine rC ?_;cbv)
  exact zL (by rw[hv,e3];rfl)
 rw[e3,Bool.true_and] at hv;cbv;refine cA cv ?_;cbv
 (refine rC ?_;cbv)
 exact zI hv.symm
theorem zJB {t base x d ps0 ps K b z s}{m m':Nat}{o len o' len':Unit->Nat}{rows rows':Unit->List (List (List D))}(hw:Wk ps0 ps)(ht:ty t=.sli 1 b z)(hb:ev (zB ps.tmps) base=.osl m 1 o len)(ho:z7 ps.objs m=some (.mat s rows []))(h0:o ()=0)(hl:len ()=(rows ()).length) (hx:ev (zB ps.tmps) x=.osl m' 1 o' len') (ho':z7 ps.objs m'=some (.mat s rows' [])) (h0':o' ()=0) (hl':len' ()=(rows' ()).length) (hmm:nqb m m'=false) (hp:0<(rows' ()).length) (hr:Room (fun _=>(((rows ()).length+(rows' ()).length:Nat):Int)) b) (hf:yE m ⟨xY (scr m') (xY (scr m) ps.tmps),yS (scr m') (xC (yS (scr m) (xC ps.objs m)) m')⟩=true) (hK:K ⟨w9 (xY (scr m') (xY (scr m) ps.tmps)) d (.osl m 1 (fun _=>0) (fun _=>(rows ()).length+(rows' ()).length)),yS (scr m') (xC (yS (scr m) (xC ps.objs m)) m')++[(m,.mat s (fun _=>rows ()++rows' ()) [])]⟩):AppK t base x (some d) ps0 K :=
 ⟨.inr ⟨ps,d,m,b,z,m,m',s,o,len,rows,o',len',rows',hw,rfl,ht,hb,ho,h0,hl,hx,ho',h0',hl',hmm,⟨hp⟩,hr,hf,hK⟩⟩
theorem zOK:ty 74=.sli 1 24 [.nil]:=by cbv
def sO (v r : Nat) (D : Dic) : List (Nat × Obj') :=
  [(13, .box [.int .i64 (fun _ => (v : Int)), .int .i64 (fun _ => (r : Int)), .osl 48 1 (fun _ => 0) (fun _ => D.bs.length), .osl 26 1 (fun _ => 0) (fun _ => D.nb.length), .osl 60 1 (fun _ => 0) (fun _ => D.fs.length), .osl 68 3 (fun _ => 0) (fun _ => D.ob.length), .int .i64 (fun _ => ((0 : Nat) : Int))]),
   (48, .arr 1 (fun _ => enc ci D.bs)), (26, .arr 1 (fun _ => enc ci D.nb)), (60, .mat 3 (fun _ => D.fs.map (enc cq)) []), (68, .arr 3 (fun _ => enc cq D.ob))]
theorem nJ (n:Nat)(f:F):(lnS n f).length=n+1:=by unfold lnS;rw[List.length_set,bS,List.length_replicate]
theorem zHD:Pg.funcs[47]?=some Tryz.f47:=by rw[xX];rfl
theorem zG7 {l m:List Nat}(hl:l.Nodup)(hm:m.Nodup)(h:∀ x,x∈l↔x∈m):l.length=m.length :=
 ((List.perm_ext_iff_of_nodup hl hm).2 h).length_eq
theorem zK0 {D E:Dic}(hD:D.wf)(hE:E.wf)(hs:Same E D)(hn:E.nb.length=D.nb.length):E.bs.length=D.bs.length:=by have:=zG7 hE.nd hD.nd (fun v=>by rw[List.mem_append,List.mem_append];exact hs.vars v);rw[List.length_append,List.length_append] at this;omega
theorem zCY {k c:Nat}{x:Rat}{l:List Rat}(h:lfit k l)(hx:Fits k x):lfit k (ins c x l):=fun y hy=>by unfold ins at hy;rcases List.mem_append.1 hy with q|q;{exact h y (List.mem_of_mem_take q)};{rcases List.mem_cons.1 q with q|q;{rw[q];exact hx};{exact h y (List.mem_of_mem_drop q)}}
theorem zJ0 {k:Nat}(hk:1<=k):Fits k 1:=fits_one.mono hk
theorem zDR {v c k:Nat}(hk:1<=k):∀ {bs:List Nat} {ls:List (List Rat)},(∀ l,l∈ls->lfit k l)->∀ l,l∈eO v c bs ls->lfit k l
 |[],_,_,l,hl=>by unfold eO at hl;exact absurd hl (by simp)| b::bs,[],_,l,hl=>by unfold eO at hl;exact absurd hl (by simp)| b::bs,m::ls,h,l,hl=>by unfold eO at hl;rcases List.mem_cons.1 hl with q|q;{rw[q];refine zCY (h m List.mem_cons_self) ?_;split;{exact w6 hk};{exact zJ0 hk}};{exact zDR hk (fun l hl=>h l (List.mem_cons_of_mem _ hl)) l q}
theorem Dic.aux_fit {D:Dic}{v a k:Nat}(h:D.fit k)(hk:1<=k):(D.aux v a).fit k:=⟨fun l hl=>zDR hk h.fs l hl,zCY h.ob (w6 hk)⟩
theorem dV {k n:Nat}(hk:1<=k):lfit k (List.replicate n 0):=fun c hc=>by rw[List.eq_of_mem_replicate hc];exact w6 hk
theorem i8 {v r k:Nat}{l:List Rat}(hk:1<=k)(h:lfit k l):∀ {ys:List Nat} {j:Nat} {o:List Rat},lfit k o->lfit k (kF v r l ys j o)
 |[],_,_,ho=>ho| y::ys,j,o,ho=>by rw[kF];refine i8 hk h ?_;split;{exact lfit.set ho (h.getD hk j) _};{exact ho}
theorem zDH {v r k:Nat}{nb:List Nat}{l:List Rat}(hk:1<=k)(h:lfit k l):lfit k (pX v r nb l):=i8 hk h (dV hk)
theorem tU {v k:Nat}{f:Nat->Rat}(h:∀ i,Fits k (f i)):∀ {ys:List Nat} {i:Nat} {x:List Rat},lfit k x->lfit k (f5 v f ys i x)
 |[],_,_,hx=>hx| b::bs,i,x,hx=>by rw[f5];refine tU h ?_;split;{exact lfit.set hx (h i) _};{exact hx}
theorem zA3 {v k:Nat}{D:Dic}(hk:1<=k)(h:D.fit k):lfit k (pnt v D):=tU (fun i=>by unfold Dic.cst;exact iU h hk i _) (dV hk)
theorem zCN {v k m e:Nat}{D:Dic}{c:Rat}(hk:1<=k)(h:D.fit k)(hc:Fits m c):lfit (m+k) (cG v D e c):=by refine tU (fun i=>pT hc (iU h hk i _)) ?_;split;{exact lfit.set (dV (by omega)) (hc.mono (by omega)) _};{exact dV (by omega)}
structure Walk (v r K:Nat) (D0 D1:Dic) (p1:Nat):Prop where
 wf:D1.wf
 bl:D1.bs.length=r
 nl:D1.nb.length=v
 pp:p1<=v
 ys:∀ y,y∈D1.bs\/y∈D1.nb->y<v+r
 fit:D1.fit K
 aux:¬wrs v D1<0->∀ E,Pvs (D1.aux v (v+r)) E->E.fit K
 some:∀ l,(vU v r D1 p1).2.2.1=some l->l≠[]/\lfit K l
 ok:(vU v r D1 p1).2.2.2=true
 q:(vU v r D1 p1).2.1<=65536
 none:(vU v r D1 p1).2.2.1=none->(vU v r D1 p1).1.wf/\(vU v r D1 p1).1.bs.length=r/\(vU v r D1 p1).1.nb.length=v/\(∀ y,y∈(vU v r D1 p1).1.bs\/y∈(vU v r D1 p1).1.nb->y<v+r)/\∀ F,Pvs (vU v r D1 p1).1 F->F.fit K
def zE7 (v r K:Nat) (D:Dic):Prop:=¬wrs v D<0->∀ E,Pvs (D.aux v (v+r)) E->E.fit K
theorem oC {v r K p:Nat}{D:Dic}(hw:D.wf)(hw2:∀ y,y∈D.bs\/y∈D.nb->y<v+r)(hk:1<=K)(ha:zE7 v r K D){l:List Rat}(h:(vU v r D p).2.2.1=some l):lfit K l:=by
 have hws:=nW v D;unfold vU at h;split at h;{cases h}
 ·rename_i hn;have ha:=ha hn;obtain⟨w1,w2,w3,w4⟩:=hws.2 (by omega);generalize (wrs v D).toNat=w at *
  (have hwl:=w1;have hat:(D.aux v (v+r)).at w D.nb.length≠0:=by rw[Dic.aux_at hw hwl,if_neg (by omega),if_pos rfl,if_neg (by omega)];decide);have hp3:Pvs (D.aux v (v+r)) ((D.aux v (v+r)).piv w D.nb.length):=.step .refl hwl (by show _<(D.nb++[v+r]).length;simp) hat
  generalize (D.aux v (v+r)).piv w D.nb.length=D3 at *
  unfold zHV at h;have hmp:=(dR (v:=v) (ln:=vio (v+r)) (65537-(p+1)) D3 (p+1)).1;generalize vI v (vio (v+r)) (65537-(p+1)) D3 (p+1)=R at *
  obtain⟨E,q,e,ok⟩:=R;cases ok with
  |false=>cases h
  |true =>
   dsimp only at h;split at h
   ·cases h;refine zDH hk ?_;unfold vio;split
    ·have hf:=ha E (hp3.trans hmp);rw[List.getD_eq_getElem?_getD];cases hg:E.fs[(wQ E.bs (v+r)).toNat]? with
     |none=>exact fun c hc=>absurd hc (by simp)| some m=>exact hf.fs m (List.mem_of_getElem? hg)
    {exact lfit.set (dV hk) (zJ0 hk) _}
   {split at h <;> cases h}
theorem zKK {v K k:Nat}{rows:List (List Rat)}{ob:List Rat}(hr:∀ l,l∈rows->l.length=v+1)(ho:ob.length=v+1)(hp:v+1+2^(rows.length+1)+2^rows.length<=65537)(hk:1<=k)(hf:(yQ v rows ob).fit k)(hK:5^v*k<=K) (hA:∀ D1,Pvs (yQ v rows ob) D1->zE7 v rows.length K D1):(∀ E,Pvs (yQ v rows ob) E->E.fit K)/\Walk v rows.length K (yQ v rows ob) (rel v (yQ v rows ob).nb 0 (yQ v rows ob,0)).1 (rel v (yQ v rows ob).nb 0 (yQ v rows ob,0)).2:=by
 have hw0:=rP hr ho;have hnl:(yQ v rows ob).nb.length=v:=by simp[yQ]
 have hbl:(yQ v rows ob).bs.length=rows.length:=by simp[yQ]
 have hrel:=bJ (v:=v) hw0 (yQ v rows ob).nb 0 (yQ v rows ob,0) rfl (Nat.zero_le _) .refl (fun e he=>absurd he (by omega));have hK1:1<=K:=Nat.le_trans (Nat.le_trans hk (Nat.le_mul_of_pos_left k (Nat.pow_pos (by decide)))) hK;have f0:∀ E,E.wf->Same E (yQ v rows ob)->(∀ X,(yQ v rows ob).Sat X->E.val X=(yQ v rows ob).val X)->E.fit K:=fun E h1 h2 h3=>(zCJ hw0 h1 h2.symm (fun X hX=>(h3 X hX).symm) hk hf (by rw[hnl];exact Nat.le_refl _)).mono hK;have f1:∀ E,Pvs (yQ v rows ob) E->E.fit K:=fun E hE=>f0 E (hE.wf hw0) (hE.same hw0) fun X hX=>hE.val hw0 hX;refine⟨f1,?_⟩;generalize rel v (yQ v rows ob).nb 0 (yQ v rows ob,0)=R1 at *
 obtain⟨D1,p1⟩:=R1;obtain⟨q1,q2,q3⟩:=hrel;dsimp only at q1 q2 q3 ⊢;rw[hnl] at q2 q3;have hw1:=q1.wf hw0;have hs1:=q1.same hw0;have hl1:=q1.len;have hpos:0<2^rows.length:=Nat.pow_pos (by decide);have hy1:∀ y,y∈D1.bs\/y∈D1.nb->y<v+rows.length:=fun y hy=>by rcases (hs1.vars y).1 hy with q|q;{obtain⟨k,hk,rfl⟩:=List.mem_map.1 q;have:=List.mem_range.1 hk;omega};{have:=List.mem_range.1 q;omega}
 have hfe:=zF8 (v:=v) (r:=rows.length) (p:=p1) hw1 (by rw[hl1.2,hnl];exact q2) hy1 (by omega);have hfew:=hfe.few;refine⟨hw1,by rw[hl1.1,hbl],by rw[hl1.2,hnl],by omega,hy1,f1 D1 q1,hA D1 q1,fun l hl=>⟨fun e=>?_,oC hw1 hy1 hK1 (hA D1 q1) hl⟩,hfe.ok,by omega,fun hn=>?_⟩;{obtain⟨a1,a2,c,a3,a4⟩:=hfe.some l hl;have:=a4 _ (Dic.ext_sat hw1 (fun _=>0));rw[e] at this;unfold jR at this;rw[Rat.zero_add] at this;rw[this] at a3;exact absurd a3 (by decide)}
 ·have hE:=hfe.none hn;generalize (vU v rows.length D1 p1).1=E at *
  have hsE:=hE.same.trans hs1;refine⟨hE.wf,by rw[zK0 hw1 hE.wf hE.same hE.nl,hl1.1,hbl],by rw[hE.nl,hl1.2,hnl],fun y hy=>hy1 y ((hE.same.vars y).1 hy),fun F hF=>?_⟩;exact f0 F (hF.wf hE.wf) ((hF.same hE.wf).trans hsE) fun X hX=>(hF.val hE.wf ((hsE.sat X).2 hX)).trans ((hE.val X ((hs1.sat X).2 hX)).trans (q1.val hw0 hX))
theorem zHN {v K k:Nat}{rows:List (List Rat)}{ob:List Rat}(hr:∀ l,l∈rows->l.length=v+1)(ho:ob.length=v+1)(hk:1<=k)(hf:(yQ v rows ob).fit k)(hK:5^(v+1)*(5^v*k)<=K):∀ D1,Pvs (yQ v rows ob) D1->zE7 v rows.length K D1:=fun D1 h1 _ E hE=>by
 have hw0:=rP hr ho;have hnl:(yQ v rows ob).nb.length=v:=by simp[yQ]
 have hw1:=h1.wf hw0;have hf1:=h1.fit hw0 hk hf (n:=v) (by rw[hnl];exact Nat.le_refl _);have hk1:1<=5^v*k:=Nat.le_trans hk (Nat.le_mul_of_pos_left k (Nat.pow_pos (by decide)));have hs1:=h1.same hw0;have hy1:∀ y,y∈D1.bs\/y∈D1.nb->y<v+rows.length:=fun y hy=>by rcases (hs1.vars y).1 hy with q|q;{obtain⟨k,hk,rfl⟩:=List.mem_map.1 q;have:=List.mem_range.1 hk;omega};{have:=List.mem_range.1 q;omega}
 have hwa:=Dic.aux_wf (v:=v) (a:=v+rows.length) hw1 (fun q=>by have:=hy1 _ (.inl q);omega) (fun q=>by have:=hy1 _ (.inr q);omega);exact (hE.fit hwa hk1 (Dic.aux_fit hf1 hk1) (n:=v+1) (by show (D1.nb++[_]).length<=_;rw[List.length_append,h1.len.2,hnl];exact Nat.le_refl _)).mono hK
structure SolFit (K:Nat) (s:SolR):Prop where
 val:Fits K s.val
 pt:lfit K s.pt
 du:lfit K s.du
 ry:lfit (K+1) s.ry
theorem zCG (c:Rat):Fits 1 (((-(xJ c):Int)):Rat):=by refine iT ?_ (Nat.le_refl 1);unfold xJ;split;{decide};{split <;> decide}
theorem bT {k:Nat}:lfit k []:=fun c hc=>absurd hc (by simp)
theorem zGU {v r K:Nat}{D0:Dic}(hK1:1<=K)(W:Walk v r K D0 (rel v D0.nb 0 (D0,0)).1 (rel v D0.nb 0 (D0,0)).2){s:SolR}(hs:cD v r D0=some s):SolFit K s:=by
 have Ws:=W.some;have Wn:=W.none;unfold cD at hs;generalize vU v r (rel v D0.nb 0 (D0,0)).1 (rel v D0.nb 0 (D0,0)).2=R2 at *
 obtain⟨E,q,ref,ok⟩:=R2;dsimp only at Ws Wn;cases ok with
 |false=>cases hs
 |true =>
  cases ref with
  |some l =>
   cases hs;exact⟨w6 hK1,bT,(Ws l rfl).2,bT⟩
  |none =>
   obtain⟨hwE,_,_,_,hfE⟩:=Wn rfl;dsimp only at hs;split at hs;{cases hs;exact⟨w6 hK1,zA3 hK1 (hfE E .refl),bT,(zCN hK1 (hfE E .refl) (zCG _)).mono (by omega)⟩}
   ·have hm:=(dR (v:=v) (ln:=Dic.ob) (65537-q) E q).1;generalize vI v Dic.ob (65537-q) E q=R3 at *
    obtain⟨F,q',e,ok⟩:=R3;have hfF:=hfE F hm;cases ok with
    |false=>cases hs
    |true =>
     dsimp only at hs;split at hs;{cases hs;exact⟨w6 hK1,zA3 hK1 hfF,bT,(zCN hK1 hfF fits_one).mono (by omega)⟩};{cases hs;exact⟨hfF.ob.getD hK1 _,zA3 hK1 hfF,zDH hK1 hfF.ob,bT⟩}
abbrev qlv (l:List Rat):PV:=.sl (fun _=>enc cq l)
abbrev ilv (l:List Nat):PV:=.sl (fun _=>enc ci l)
abbrev slv (s:SolR):PV:=.agg [.int .i64 (fun _=>(s.st:Int)),.bool (fun _=>(zS s.val).neg),nat (zS s.val).num,nat (zS s.val).den,qlv s.pt,qlv s.du,qlv s.ry,ilv s.bas,.int .i64 (fun _=>(s.pv:Int))]
def sP (v r : Nat) (D : Dic) (p : Nat) : List (Nat × Obj') :=
  [(13, .box [.int .i64 (fun _ => (v : Int)), .int .i64 (fun _ => (r : Int)), .osl 48 1 (fun _ => 0) (fun _ => D.bs.length), .osl 26 1 (fun _ => 0) (fun _ => D.nb.length), .osl 60 1 (fun _ => 0) (fun _ => D.fs.length), .osl 68 3 (fun _ => 0) (fun _ => D.ob.length), .int .i64 (fun _ => (p : Int))]),
   (48, .arr 1 (fun _ => enc ci D.bs)), (26, .arr 1 (fun _ => enc ci D.nb)), (60, .mat 3 (fun _ => D.fs.map (enc cq)) []), (68, .arr 3 (fun _ => enc cq D.ob))]
theorem zK8 (xs:List (List D))(hw:∀ e,e∈xs->e.length=1)(hn:xs.length<2^40):Sound 58 [.osl 1000001 1 (fun _=>0) (fun _=>xs.length)] [(1000001,.arr 1 (fun _=>xs))] [] (.sl (fun _=>xs)) [(1000001,.arr 1 (fun _=>xs))] []:=by refine yH zC4 rfl rfl rfl rfl rfl ?_;cbv;refine⟨fun b hb=>?_⟩;cbv;refine z9 (fun h=>?_) (fun h=>?_);{have h0:xs.length=0:=hb h;have h1:xs=[]:=List.eq_nil_of_length_eq_zero h0;subst h1;cbv;refine qF (wkZ (ps':=⟨[(2,.nil)],[(1000001,.arr 1 (fun _=>[]))]⟩)) rfl (by exact⟨⟨rfl,rfl⟩,trivial⟩) (by rfl) (by exact⟨⟨rfl,by omega⟩,trivial⟩) ?_;exact zN rfl};{cbv;refine eQ oL rfl rfl rfl rfl rfl rfl rfl rfl ⟨hw⟩ (yJ om (by simp only[List.length_nil];(try dsimp only [zJ] at *) <;> omega)) rfl ?_;cbv;refine qF (.frz 7 rfl rfl (by cbv;repeat' first|exact trivial|exact yL (by simp)|apply And.intro) (by cbv;repeat' first|exact trivial|apply And.intro)) rfl (by exact⟨⟨rfl,rfl⟩,trivial⟩) (by rfl) (by exact⟨⟨rfl,by omega⟩,trivial⟩) ?_;refine zX ?_;show (([]++xs).drop 0).take ([].length+xs.length)=xs;simp}
theorem zJT {v:Nat}{ln:Dic->List Rat}(hln:∀ D,ln D=D.ob):∀ (f:Nat) (D:Dic) (p:Nat),0<=(vI v ln f D p).2.2.1->(vI v ln f D p).2.2.1.toNat<(vI v ln f D p).1.nb.length
 |0,D,p,h=>by rw[vI] at h;exact absurd h (by show ¬(0:Int)<=-1;decide)| f+1,D,p,h=>by rw[vI] at h ⊢;split at h;{rename_i h1;rw[if_pos h1];split at h;{exact absurd h (by show ¬(0:Int)<=-1;decide)};{rename_i h2;rw[if_neg h2];split at h;{rename_i h3;rw[if_pos h3];exact (aN (v:=v) (nb:=D.nb) (l:=ln D) h).1};{rename_i h3;rw[if_neg h3];exact zJT hln f _ _ h}}};{exact absurd h (by show ¬(0:Int)<=-1;decide)}
theorem zHC:Pg.funcs[20]?=some Tryz.f20:=by rw[xX];rfl
end Go.Proofs.YtfainocfaddbdaaGreat
