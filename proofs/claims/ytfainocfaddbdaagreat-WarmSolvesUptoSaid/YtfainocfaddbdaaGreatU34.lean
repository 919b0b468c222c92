/- A part of the proof: SzA, SyO, SxN, SyQ, SxP. -/
import Derived.Test.YtfainocfaddbdaaGreatU23
import Derived.Test.YtfainocfaddbdaaGreatU22
import Derived.Test.YtfainocfaddbdaaGreatU33
import Derived.Test.YtfainocfaddbdaaGreatU28
import Derived.Test.YtfainocfaddbdaaGreatU25
set_option linter.all false
namespace Go.Proofs.YtfainocfaddbdaaGreat
open Go
set_option maxRecDepth 100000
set_option maxHeartbeats 4000000
structure Prg where
 v:Int
 rows:List A
 ob:A
def pgc (P:Prg):List PV:=[.int .i64 (fun _=>P.v),alv P.rows,tsv P.ob.ts,.bool (fun _=>P.ob.c.neg),nat P.ob.c.num,nat P.ob.c.den]
abbrev pgv (P:Prg):PV:=.agg [.int .i64 (fun _=>P.v),alv P.rows,tsv P.ob.ts,.bool (fun _=>P.ob.c.neg),nat P.ob.c.num,nat P.ob.c.den]
structure Prg.sz (P:Prg) (k:Nat):Prop where
 rows:Asz k P.rows
 ob:P.ob.sz k
theorem Prg.sz.mono {k m:Nat}{P:Prg}(h:P.sz k)(hm:k<=m):P.sz m:=⟨h.rows.mono hm,h.ob.mono hm⟩
def Prg.valid (P:Prg):Bool:=decide (0<=P.v/\P.v<=1280/\P.rows.length<=4096)&&P.ob.valid P.v&&P.rows.all (A.valid P.v)
def R.small (x:R):Bool:=decide (x.num.length<=2/\x.den.length<=2)&&x.ok
def A.small (a:A):Bool:=decide (a.ts.length<=8)&&a.c.small&&a.valid 1048576&&a.ts.all (fun t=>t.2.small)
def cS (l:List A) (m:Int):Bool:=decide ((l.length:Int)<=m)&&l.all A.small
def Prg.small (P:Prg):Bool:=decide (P.v<=4)&&cS P.rows 8&&P.ob.small&&P.valid
theorem zGA:Pg.funcs[46]?=some Tryz.f46:=by rw[vJ];rfl
theorem zRK (P:Prg)(hP:P.sz (2^32)):zG 46 [pgv P] (.bool (fun _=>P.valid)):=by
 refine yW zGA rfl rfl rfl rfl rfl ?_;obtain⟨n,us,ob⟩:=P;have hus:=hP.rows;have hc:∀ a,a∈us->zG 80 [av a,.int .i64 (fun _=>n)] (.bool (fun _=>a.valid n)):=fun a h=>b6 a n ((hus.sz a h).mono (by decide));have co:=b6 ob n (hP.ob.mono (by decide));have hul:=hus.len;dsimp only at hul;generalize hr:Prg.valid ⟨n,us,ob⟩=r;have hr0:r=(decide (0<=n/\n<=1280/\us.length<=4096)&&ob.valid n&&us.all (A.valid n)):=hr.symm;generalize ob.valid n=bo at *
 obtain⟨ots,oc⟩:=ob;have hf:¬(0<=n/\n<=1280/\us.length<=4096)->r=false:=fun h=>by rw[hr0,decide_eq_false h];rfl
 have ht:(0<=n/\n<=1280/\us.length<=4096)->r=(bo&&us.all (A.valid n)):=fun h=>by rw[hr0,decide_eq_true h,wM]
 clear hr hr0 hus hP;cbv;refine yD (fun e1=>?_) (fun e1=>?_)
 ·cbv
  (refine rC ?_;cbv)
  exact z5 (hf okQ)
 cbv;refine yD (fun e2=>?_) (fun e2=>?_)
 ·cbv
  (refine rC ?_;cbv)
  exact z5 (hf okQ)
 cbv;refine yD (fun e3=>?_) (fun e3=>?_)
 ·cbv
  (refine rC ?_;cbv)
  exact z5 (hf okQ)
 have hv:=ht okQ;clear ht hf e1 e2 e3;cbv;refine cA co ?_;cbv;refine z6 (fun e4=>?_) (fun e4=>?_)
 rotate_left
 ·cbv
  (refine rC ?_;cbv)
  exact z5 (by rw[hv,e4];rfl)
 rw[e4,wM] at hv;cbv;refine zX (σ:=Nat) (fun i=>⟨[(1,.ptr 1 0),(28,alv us),(29,.int .i64 (fun _=>(us.length:Int))),(30,.int .i64 (fun _=>(i:Int)))],[(1,.box [.int .i64 (fun _=>n),alv us,tsv ots,.bool (fun _=>oc.neg),nat oc.num,nat oc.den])]⟩) (fun i=>i<=us.length/\r=(us.drop i).all (A.valid n)) (fun i=>us.length-i) 0 ⟨by omega,by rw[hv];rfl⟩ (.le (by cbv;repeat' first|exact trivial|exact lR|exact zE (by (try dsimp only [zI] at *);rw[zK];omega)|exact zE (by (try dsimp only [zI] at *);rw[zK])|apply zN) okZ rfl) ?_;clear hv;intro i hi;obtain⟨h1,h2⟩:=hi;cbv;refine zD (fun h5=>?_) (fun h5=>?_)
 ·have hlt:i<us.length:=om;obtain⟨a,ha⟩:=kT hlt;have cv:=hc a (zZ ha);rw[uX ha,zLB] at h2;generalize a.valid n=pa at *
  cbv;refine xC ha gU dG ?_;cbv;refine cA cv ?_;cbv;refine z6 (fun e=>?_) (fun e=>?_);{cbv;refine⟨zC om om,?_⟩;cbv;exact⟨i+1,⟨om,by rw[h2,e,wM]⟩,om,wkZ⟩}
  ·cbv
   (refine rC ?_;cbv)
   exact z5 (by rw[h2,e];rfl)
 ·have he:i=us.length:=om;rw[he,vG] at h2;cbv
  (refine rC ?_;cbv)
  exact xQ h2
theorem zT5 (P:Prg)(hP:P.sz (2^32)):zG 24 [pgv P] (.bool (fun _=>P.valid)):=by
 refine sF Tryz.f24 ?_;obtain⟨n,us,ob⟩:=P;have hus:=hP.rows;have hc:∀ a,a∈us->zG 66 [av a,.int .i64 (fun _=>n)] (.bool (fun _=>a.valid n)):=fun a h=>sR7V a n (hus.sz a h);have co:=sR7V ob n hP.ob;have hul:=hus.len;dsimp only at hul;generalize hr:Prg.valid ⟨n,us,ob⟩=r;have hr0:r=(decide (0<=n/\n<=1280/\us.length<=4096)&&ob.valid n&&us.all (A.valid n)):=hr.symm;generalize ob.valid n=bo at *
 obtain⟨ots,oc⟩:=ob;have hf:¬(0<=n/\n<=1280/\us.length<=4096)->r=false:=fun h=>by rw[hr0,decide_eq_false h];rfl
 have ht:(0<=n/\n<=1280/\us.length<=4096)->r=(bo&&us.all (A.valid n)):=fun h=>by rw[hr0,decide_eq_true h,wM]
 clear hr hr0 hus hP;cbv;refine yD (fun e1=>?_) (fun e1=>?_)
 ·cbv
  (refine rC ?_;cbv)
  exact z5 (hf okQ)
 cbv;refine yD (fun e2=>?_) (fun e2=>?_)
 ·cbv
  (refine rC ?_;cbv)
  exact z5 (hf okQ)
 cbv;refine yD (fun e3=>?_) (fun e3=>?_)
 ·cbv
  (refine rC ?_;cbv)
  exact z5 (hf okQ)
 have hv:=ht okQ;clear ht hf e1 e2 e3;cbv;refine cA co ?_;cbv;refine z6 (fun e4=>?_) (fun e4=>?_)
 rotate_left
 ·cbv
  (refine rC ?_;cbv)
  exact z5 (by rw[hv,e4];rfl)
 rw[e4,wM] at hv;cbv;refine zX (σ:=Nat) (fun i=>⟨[(1,.ptr 1 0),(3,.int .i64 (fun _=>(i:Int)))],[(1,.box [.int .i64 (fun _=>n),alv us,tsv ots,.bool (fun _=>oc.neg),nat oc.num,nat oc.den])]⟩) (fun i=>i<=us.length/\r=(us.drop i).all (A.valid n)) (fun i=>us.length-i) 0 ⟨by omega,by rw[hv];rfl⟩ (wkZ) ?_;clear hv;intro i hi;obtain⟨h1,h2⟩:=hi;cbv;refine zD (fun h5=>?_) (fun h5=>?_)
 ·have hlt:=j8 h5;obtain⟨a,ha⟩:=kT hlt;have cv:=hc a (zZ ha);rw[uX ha,zLB] at h2;generalize a.valid n=pa at *
  cbv;refine zT 7 (by cbv) ?_;cbv;refine xC ha gU dG ?_;cbv;refine cA cv ?_;cbv;refine z6 (fun e=>?_) (fun e=>?_);{cbv;exact⟨zC om om,i+1,⟨om,by rw[h2,e,wM]⟩,om,wkZ⟩}
  ·cbv
   (refine rC ?_;cbv)
   exact z5 (by rw[h2,e];rfl)
 ·have he:=cV h5 h1;rw[he,vG] at h2;cbv
  (refine rC ?_;cbv)
  exact xQ h2
theorem zWU (x:R)(hx:x.sz (2^32)):zG 108 [rv x] (.bool (fun _=>x.small)):=by
 refine sF Tryz.f108 ?_;have cv:=s129 x hx;generalize hr:R.small x=r;have hr0:r=(decide (x.num.length<=2/\x.den.length<=2)&&x.ok):=hr.symm;generalize x.ok=b at *
 obtain⟨a,n,d⟩:=x;dsimp only at hr0;have hf:¬(n.length<=2/\d.length<=2)->r=false:=fun h=>by rw[hr0,decide_eq_false h];rfl
 have ht:(n.length<=2/\d.length<=2)->r=b:=fun h=>by rw[hr0,decide_eq_true h,wM]
 clear hr hr0 hx;cbv;refine yD (fun e1=>?_) (fun e1=>?_)
 rotate_left
 ·cbv
  (refine rC ?_;cbv)
  exact z5 (hf okQ)
 cbv;refine yD (fun e2=>?_) (fun e2=>?_)
 rotate_left
 ·cbv
  (refine rC ?_;cbv)
  exact z5 (hf okQ)
 have hv:=ht okQ;cbv;refine cA cv ?_;cbv
 (refine rC ?_;cbv)
 exact yX hv.symm
theorem zWV (a:A)(ha:a.sz (2^32)):zG 61 [av a] (.bool (fun _=>a.small)):=by
 refine sF Tryz.f61 ?_;have cc:=zWU a.c ha.c;have cv:=sR7V a 1048576 ha;generalize hr:A.small a=r;have hr0:r=(decide (a.ts.length<=8)&&a.c.small&&a.valid 1048576&&a.ts.all (fun t=>t.2.small)):=hr.symm;generalize a.c.small=sc at *
 generalize a.valid 1048576=va at *
 have hts:=ha.t.sz;have hl:=ha.t.len;obtain⟨ts,c⟩:=a;dsimp only at hr0 hts hl;have hs:∀ t,t∈ts->zG 108 [rv t.2] (.bool (fun _=>t.2.small)):=fun t ht=>zWU t.2 (hts t ht);have hf:¬(ts.length<=8)->r=false:=fun h=>by rw[hr0,decide_eq_false h];rfl
 have ht:(ts.length<=8)->r=(sc&&va&&ts.all (fun t=>t.2.small)):=fun h=>by rw[hr0,decide_eq_true h,wM]
 clear hr hr0 ha;cbv;refine yD (fun e1=>?_) (fun e1=>?_)
 ·cbv
  (refine rC ?_;cbv)
  exact z5 (hf okQ)
 have hv:=ht okQ;clear hf ht e1;cbv;refine cA cc ?_;cbv;refine xK (fun e2=>?_) (fun e2=>?_)
 rotate_left
 ·cbv
  (refine rC ?_;cbv)
  exact z5 (by rw[hv,e2];rfl)
 rw[e2,wM] at hv;cbv;refine cA cv ?_;cbv;refine z6 (fun e3=>?_) (fun e3=>?_)
 rotate_left
 ·cbv
  (refine rC ?_;cbv)
  exact z5 (by rw[hv,e3];rfl)
 rw[e3,wM] at hv;cbv;refine zX (σ:=Nat) (fun i=>⟨[(1,.ptr 1 0),(3,.int .i64 (fun _=>(i:Int)))],[(1,.box [tsv ts,.bool (fun _=>c.neg),nat c.num,nat c.den])]⟩) (fun i=>i<=ts.length/\r=(ts.drop i).all (fun t=>t.2.small)) (fun i=>ts.length-i) 0 ⟨by omega,by rw[hv];rfl⟩ (wkZ) ?_;clear hv;intro i hi;obtain⟨h1,h2⟩:=hi;cbv;refine zD (fun h5=>?_) (fun h5=>?_)
 ·have hlt:=j8 h5;obtain⟨t,ht⟩:=kT hlt;have cv:=hs t (zZ ht);rw[uX ht,zLB] at h2;generalize t.2.small=pa at *
  cbv;refine xC ht kG jE ?_;cbv;refine cA cv ?_;cbv;refine z6 (fun e=>?_) (fun e=>?_);{cbv;exact⟨zC om om,i+1,⟨om,by rw[h2,e,wM]⟩,om,wkZ⟩}
  ·cbv
   (refine rC ?_;cbv)
   exact z5 (by rw[h2,e];rfl)
 ·have he:=cV h5 h1;rw[he,vG] at h2;cbv
  (refine rC ?_;cbv)
  exact xQ h2
theorem zS9 (us:List A)(m:Int)(ha:Asz (2^32) us):zG 60 [alv us,.int .i64 (fun _=>m)] (.bool (fun _=>cS us m)):=by
 refine sF Tryz.f60 ?_;generalize hr:cS us m=r;have hr0:r=(decide ((us.length:Int)<=m)&&us.all A.small):=hr.symm;have hts:=ha.sz;have hl:=ha.len;have hs:∀ t,t∈us->zG 61 [av t] (.bool (fun _=>t.small)):=fun t ht=>zWV t (hts t ht);have hf:¬((us.length:Int)<=m)->r=false:=fun h=>by rw[hr0,decide_eq_false h];rfl
 have ht:((us.length:Int)<=m)->r=us.all A.small:=fun h=>by rw[hr0,decide_eq_true h,wM]
 clear hr hr0 ha;cbv;refine zD (fun e1=>?_) (fun e1=>?_)
 ·cbv
  (refine rC ?_;cbv)
  exact z5 (hf okQ)
 have hv:=ht okQ;clear hf ht e1;cbv;refine zX (σ:=Nat) (fun i=>⟨[(0,alv us),(5,.int .i64 (fun _=>(i:Int)))],[]⟩) (fun i=>i<=us.length/\r=(us.drop i).all A.small) (fun i=>us.length-i) 0 ⟨by omega,by rw[hv];rfl⟩ (wkZ) ?_;clear hv;intro i hi;obtain⟨h1,h2⟩:=hi;cbv;refine zD (fun h5=>?_) (fun h5=>?_)
 ·have hlt:=j8 h5;obtain⟨t,ht⟩:=kT hlt;have cv:=hs t (zZ ht);rw[uX ht,zLB] at h2;generalize t.small=pa at *
  cbv;refine xC ht gU dG ?_;cbv;refine cA cv ?_;cbv;refine z6 (fun e=>?_) (fun e=>?_);{cbv;exact⟨zC om om,i+1,⟨om,by rw[h2,e,wM]⟩,om,wkZ⟩}
  ·cbv
   (refine rC ?_;cbv)
   exact z5 (by rw[h2,e];rfl)
 ·have he:=cV h5 h1;rw[he,vG] at h2;cbv
  (refine rC ?_;cbv)
  exact xQ h2
theorem yAA (P:Prg)(hP:P.sz (2^32)):zG 22 [pgv P] (.bool (fun _=>P.small)):=by
 refine sF Tryz.f22 ?_;have cv:=zT5 P hP;have cr:=zS9 P.rows 8 hP.rows;have co:=zWV P.ob hP.ob;generalize hr:P.small=r;have hr0:r=(decide (P.v<=4)&&cS P.rows 8&&P.ob.small&&P.valid):=hr.symm;generalize P.valid=pv at *
 generalize cS P.rows 8=ps at *
 generalize P.ob.small=po at *
 obtain⟨n,us,ob⟩:=P;obtain⟨ots,oc⟩:=ob;dsimp only at hr0 co cr;have hf:¬(n<=4)->r=false:=fun h=>by rw[hr0,decide_eq_false h];rfl
 have ht:(n<=4)->r=(ps&&po&&pv):=fun h=>by rw[hr0,decide_eq_true h,wM]
 clear hr hr0 hP;cbv;refine yD (fun e1=>?_) (fun e1=>?_)
 rotate_left
 ·cbv
  (refine rC ?_;cbv)
  exact z5 (hf okQ)
 have hv:=ht okQ;clear hf ht e1;cbv;refine cA cr ?_;cbv;refine xK (fun e2=>?_) (fun e2=>?_)
 rotate_left
 ·cbv
  (refine rC ?_;cbv)
  exact z5 (by rw[hv,e2];rfl)
 rw[e2,wM] at hv;cbv;refine cA co ?_;cbv;refine xK (fun e3=>?_) (fun e3=>?_)
 rotate_left
 ·cbv
  (refine rC ?_;cbv)
  exact z5 (by rw[hv,e3];rfl)
 rw[e3,wM] at hv;cbv;refine cA cv ?_;cbv
 (refine rC ?_;cbv)
 exact yX hv.symm
theorem zSN {t base x d ps0 ps K b z s}{m m':Nat}{o len o' len':Unit->Nat}{rows rows':Unit->List (List (List D))}(hw:Wk ps0 ps)(ht:ty t=.sli 1 b z)(hb:ev (zA ps.tmps) base=.osl m 1 o len)(ho:yA ps.objs m=some (.mat s rows []))(h0:o ()=0)(hl:len ()=(rows ()).length) (hx:ev (zA ps.tmps) x=.osl m' 1 o' len') (ho':yA ps.objs m'=some (.mat s rows' [])) (h0':o' ()=0) (hl':len' ()=(rows' ()).length) (hmm:nqb m m'=false) (hp:0<(rows' ()).length) (hr:Room (fun _=>(((rows ()).length+(rows' ()).length:Nat):Int)) b) (hf:yJ m ⟨wX (scr m') (wX (scr m) ps.tmps),y5 (scr m') (xT (y5 (scr m) (xT ps.objs m)) m')⟩=true) (hK:K ⟨uH (wX (scr m') (wX (scr m) ps.tmps)) d (.osl m 1 (fun _=>0) (fun _=>(rows ()).length+(rows' ()).length)),y5 (scr m') (xT (y5 (scr m) (xT ps.objs m)) m')++[(m,.mat s (fun _=>rows ()++rows' ()) [])]⟩):AppK t base x (some d) ps0 K :=
 ⟨.inr ⟨ps,d,m,b,z,m,m',s,o,len,rows,o',len',rows',hw,rfl,ht,hb,ho,h0,hl,hx,ho',h0',hl',hmm,⟨hp⟩,hr,hf,hK⟩⟩
theorem zZS:ty 74=.sli 1 24 [.nil]:=by cbv
def sO (v r : Nat) (D : Dic) : List (Nat × Obj') :=
  [(13, .box [.int .i64 (fun _ => (v : Int)), .int .i64 (fun _ => (r : Int)), .osl 48 1 (fun _ => 0) (fun _ => D.bs.length), .osl 26 1 (fun _ => 0) (fun _ => D.nb.length), .osl 60 1 (fun _ => 0) (fun _ => D.fs.length), .osl 68 3 (fun _ => 0) (fun _ => D.ob.length), .int .i64 (fun _ => ((0 : Nat) : Int))]),
   (48, .arr 1 (fun _ => enc ci D.bs)), (26, .arr 1 (fun _ => enc ci D.nb)), (60, .mat 3 (fun _ => D.fs.map (enc cq)) []), (68, .arr 3 (fun _ => enc cq D.ob))]
theorem zCU (n:Nat)(f:F):(lnS n f).length=n+1:=by unfold lnS;rw[kD,mB,lI]
theorem zP3:Pg.funcs[47]?=some Tryz.f47:=by rw[vJ];rfl
theorem zPW {l m:List Nat}(hl:l.Nodup)(hm:m.Nodup)(h:∀ x,x∈l↔x∈m):l.length=m.length :=
 ((List.perm_ext_iff_of_nodup hl hm).2 h).length_eq
theorem zU6 {D E:Dic}(hD:D.wf)(hE:E.wf)(hs:Same E D)(hn:E.nb.length=D.nb.length):E.bs.length=D.bs.length:=by have:=zPW hE.nd hD.nd (fun v=>by rw[wQ,wQ];exact hs.vars v);rw[wP,wP] at this;omega
theorem zJU {k c:Nat}{x:Rat}{l:List Rat}(h:lfit k l)(hx:Fits k x):lfit k (ins c x l):=fun y hy=>by unfold ins at hy;rcases wQ.1 hy with q|q;{exact h y (zEU q)};{rcases z9.1 q with q|q;{rw[q];exact hx};{exact h y (zQ1 q)}}
theorem zTO {k:Nat}(hk:1<=k):Fits k 1:=fits_one.mono hk
theorem zKW {v c k:Nat}(hk:1<=k):∀ {bs:List Nat} {ls:List (List Rat)},(∀ l,l∈ls->lfit k l)->∀ l,l∈auxF v c bs ls->lfit k l
 |[],_,_,l,hl=>by unfold auxF at hl;exact absurd hl (by simp)| b::bs,[],_,l,hl=>by unfold auxF at hl;exact absurd hl (by simp)| b::bs,m::ls,h,l,hl=>by unfold auxF at hl;rcases z9.1 hl with q|q;{rw[q];refine zJU (h m xD) ?_;split;{exact wD hk};{exact zTO hk}};{exact zKW hk (fun l hl=>h l (xI _ hl)) l q}
theorem Dic.aux_fit {D:Dic}{v a k:Nat}(h:D.fit k)(hk:1<=k):(D.aux v a).fit k:=⟨fun l hl=>zKW hk h.fs l hl,zJU h.ob (wD hk)⟩
theorem rR {k n:Nat}(hk:1<=k):lfit k (List.replicate n 0):=fun c hc=>by rw[zQX hc];exact wD hk
theorem zCJ {v r k:Nat}{l:List Rat}(hk:1<=k)(h:lfit k l):∀ {ys:List Nat} {j:Nat} {o:List Rat},lfit k o->lfit k (fC v r l ys j o)
 |[],_,_,ho=>ho| y::ys,j,o,ho=>by rw[fC];refine zCJ hk h ?_;split;{exact lfit.set ho (h.getD hk j) _};{exact ho}
theorem zKK {v r k:Nat}{nb:List Nat}{l:List Rat}(hk:1<=k)(h:lfit k l):lfit k (oF v r nb l):=zCJ hk h (rR hk)
theorem zAB {v k:Nat}{f:Nat->Rat}(h:∀ i,Fits k (f i)):∀ {ys:List Nat} {i:Nat} {x:List Rat},lfit k x->lfit k (sC v f ys i x)
 |[],_,_,hx=>hx| b::bs,i,x,hx=>by rw[sC];refine zAB h ?_;split;{exact lfit.set hx (h i) _};{exact hx}
theorem zHF {v k:Nat}{D:Dic}(hk:1<=k)(h:D.fit k):lfit k (pnt v D):=zAB (fun i=>by unfold Dic.cst;exact zE4 h hk i _) (rR hk)
theorem zJJ {v k m e:Nat}{D:Dic}{c:Rat}(hk:1<=k)(h:D.fit k)(hc:Fits m c):lfit (m+k) (pE v D e c):=by refine zAB (fun i=>uB hc (zE4 h hk i _)) ?_;split;{exact lfit.set (rR oM) (hc.mono oM) _};{exact rR oM}
structure Walk (v r K:Nat) (D0 D1:Dic) (p1:Nat):Prop where
 wf:D1.wf
 bl:D1.bs.length=r
 nl:D1.nb.length=v
 pp:p1<=v
 ys:∀ y,y∈D1.bs\/y∈D1.nb->y<v+r
 fit:D1.fit K
 aux:¬wrs v D1<0->∀ E,Pvs (D1.aux v (v+r)) E->E.fit K
 some:∀ l,(qT v r D1 p1).2.2.1=some l->l≠[]/\lfit K l
 ok:(qT v r D1 p1).2.2.2=true
 q:(qT v r D1 p1).2.1<=65536
 none:(qT v r D1 p1).2.2.1=none->(qT v r D1 p1).1.wf/\(qT v r D1 p1).1.bs.length=r/\(qT v r D1 p1).1.nb.length=v/\(∀ y,y∈(qT v r D1 p1).1.bs\/y∈(qT v r D1 p1).1.nb->y<v+r)/\∀ F,Pvs (qT v r D1 p1).1 F->F.fit K
def zNG (v r K:Nat) (D:Dic):Prop:=¬wrs v D<0->∀ E,Pvs (D.aux v (v+r)) E->E.fit K
theorem zEQ {v r K p:Nat}{D:Dic}(hw:D.wf)(hw2:∀ y,y∈D.bs\/y∈D.nb->y<v+r)(hk:1<=K)(ha:zNG v r K D){l:List Rat}(h:(qT v r D p).2.2.1=some l):lfit K l:=by
 have hws:=zC9 v D;unfold qT at h;split at h;{cases h}
 ·rename_i hn;have ha:=ha hn;obtain⟨w1,w2,w3,w4⟩:=hws.2 oM;generalize (wrs v D).toNat=w at *
  (have hwl:=w1;have hat:(D.aux v (v+r)).at w D.nb.length≠0:=by rw[Dic.aux_at hw hwl,if_neg oM,if_pos rfl,if_neg oM];decide);have hp3:Pvs (D.aux v (v+r)) ((D.aux v (v+r)).piv w D.nb.length):=.step .refl hwl (by show _<(D.nb++[v+r]).length;simp) hat
  generalize (D.aux v (v+r)).piv w D.nb.length=D3 at *
  unfold zQT at h;have hmp:=(rO (v:=v) (ln:=vio (v+r)) (65537-(p+1)) D3 (p+1)).1;generalize qG v (vio (v+r)) (65537-(p+1)) D3 (p+1)=R at *
  obtain⟨E,q,e,ok⟩:=R;cases ok with
  |false=>cases h
  |true =>
   dsimp only at h;split at h
   ·cases h;refine zKK hk ?_;unfold vio;split
    ·have hf:=ha E (hp3.trans hmp);rw[yC];cases hg:E.fs[(uG E.bs (v+r)).toNat]? with
     |none=>exact fun c hc=>absurd hc (by simp)| some m=>exact hf.fs m (zZ hg)
    {exact lfit.set (rR hk) (zTO hk) _}
   {split at h <;> cases h}
theorem zUM {v K k:Nat}{rows:List (List Rat)}{ob:List Rat}(hr:∀ l,l∈rows->l.length=v+1)(ho:ob.length=v+1)(hp:v+1+2^(rows.length+1)+2^rows.length<=65537)(hk:1<=k)(hf:(y6 v rows ob).fit k)(hK:5^v*k<=K) (hA:∀ D1,Pvs (y6 v rows ob) D1->zNG v rows.length K D1):(∀ E,Pvs (y6 v rows ob) E->E.fit K)/\Walk v rows.length K (y6 v rows ob) (rel v (y6 v rows ob).nb 0 (y6 v rows ob,0)).1 (rel v (y6 v rows ob).nb 0 (y6 v rows ob,0)).2:=by
 have hw0:=iY hr ho;have hnl:(y6 v rows ob).nb.length=v:=by simp[y6]
 have hbl:(y6 v rows ob).bs.length=rows.length:=by simp[y6]
 have hrel:=tZ (v:=v) hw0 (y6 v rows ob).nb 0 (y6 v rows ob,0) rfl (wH _) .refl (fun e he=>absurd he oM);have hK1:1<=K:=vS (vS hk (zIZ k (aX (by decide)))) hK;have f0:∀ E,E.wf->Same E (y6 v rows ob)->(∀ X,(y6 v rows ob).Sat X->E.val X=(y6 v rows ob).val X)->E.fit K:=fun E h1 h2 h3=>(zJE hw0 h1 h2.symm (fun X hX=>(h3 X hX).symm) hk hf (by rw[hnl];exact zV _)).mono hK;have f1:∀ E,Pvs (y6 v rows ob) E->E.fit K:=fun E hE=>f0 E (hE.wf hw0) (hE.same hw0) fun X hX=>hE.val hw0 hX;refine⟨f1,?_⟩;generalize rel v (y6 v rows ob).nb 0 (y6 v rows ob,0)=R1 at *
 obtain⟨D1,p1⟩:=R1;obtain⟨q1,q2,q3⟩:=hrel;dsimp only at q1 q2 q3 ⊢;rw[hnl] at q2 q3;have hw1:=q1.wf hw0;have hs1:=q1.same hw0;have hl1:=q1.len;have hpos:0<2^rows.length:=aX (by decide);have hy1:∀ y,y∈D1.bs\/y∈D1.nb->y<v+rows.length:=fun y hy=>by rcases (hs1.vars y).1 hy with q|q;{obtain⟨k,hk,rfl⟩:=yS.1 q;have:=wZ.1 hk;omega};{have:=wZ.1 q;omega}
 have hfe:=zON (v:=v) (r:=rows.length) (p:=p1) hw1 (by rw[hl1.2,hnl];exact q2) hy1 oM;have hfew:=hfe.few;refine⟨hw1,by rw[hl1.1,hbl],by rw[hl1.2,hnl],by omega,hy1,f1 D1 q1,hA D1 q1,fun l hl=>⟨fun e=>?_,zEQ hw1 hy1 hK1 (hA D1 q1) hl⟩,hfe.ok,by omega,fun hn=>?_⟩;{obtain⟨a1,a2,c,a3,a4⟩:=hfe.some l hl;have:=a4 _ (Dic.ext_sat hw1 (fun _=>0));rw[e] at this;unfold fP at this;rw[Rat.zero_add] at this;rw[this] at a3;exact absurd a3 (by decide)}
 ·have hE:=hfe.none hn;generalize (qT v rows.length D1 p1).1=E at *
  have hsE:=hE.same.trans hs1;refine⟨hE.wf,by rw[zU6 hw1 hE.wf hE.same hE.nl,hl1.1,hbl],by rw[hE.nl,hl1.2,hnl],fun y hy=>hy1 y ((hE.same.vars y).1 hy),fun F hF=>?_⟩;exact f0 F (hF.wf hE.wf) ((hF.same hE.wf).trans hsE) fun X hX=>(hF.val hE.wf ((hsE.sat X).2 hX)).trans ((hE.val X ((hs1.sat X).2 hX)).trans (q1.val hw0 hX))
theorem zQK {v K k:Nat}{rows:List (List Rat)}{ob:List Rat}(hr:∀ l,l∈rows->l.length=v+1)(ho:ob.length=v+1)(hk:1<=k)(hf:(y6 v rows ob).fit k)(hK:5^(v+1)*(5^v*k)<=K):∀ D1,Pvs (y6 v rows ob) D1->zNG v rows.length K D1:=fun D1 h1 _ E hE=>by
 have hw0:=iY hr ho;have hnl:(y6 v rows ob).nb.length=v:=by simp[y6]
 have hw1:=h1.wf hw0;have hf1:=h1.fit hw0 hk hf (n:=v) (by rw[hnl];exact zV _);have hk1:1<=5^v*k:=vS hk (zIZ k (aX (by decide)));have hs1:=h1.same hw0;have hy1:∀ y,y∈D1.bs\/y∈D1.nb->y<v+rows.length:=fun y hy=>by rcases (hs1.vars y).1 hy with q|q;{obtain⟨k,hk,rfl⟩:=yS.1 q;have:=wZ.1 hk;omega};{have:=wZ.1 q;omega}
 have hwa:=Dic.aux_wf (v:=v) (a:=v+rows.length) hw1 (fun q=>by have:=hy1 _ (.inl q);omega) (fun q=>by have:=hy1 _ (.inr q);omega);exact (hE.fit hwa hk1 (Dic.aux_fit hf1 hk1) (n:=v+1) (by show (D1.nb++[_]).length<=_;rw[wP,h1.len.2,hnl];exact zV _)).mono hK
structure SolFit (K:Nat) (s:SolR):Prop where
 val:Fits K s.val
 pt:lfit K s.pt
 du:lfit K s.du
 ry:lfit (K+1) s.ry
theorem zJB (c:Rat):Fits 1 (((-(xF c):Int)):Rat):=by refine aL ?_ (zV 1);unfold xF;split;{decide};{split <;> decide}
theorem mC {k:Nat}:lfit k []:=fun c hc=>absurd hc (by simp)
theorem zPE {v r K:Nat}{D0:Dic}(hK1:1<=K)(W:Walk v r K D0 (rel v D0.nb 0 (D0,0)).1 (rel v D0.nb 0 (D0,0)).2){s:SolR}(hs:r9 v r D0=some s):SolFit K s:=by
 have Ws:=W.some;have Wn:=W.none;unfold r9 at hs;generalize qT v r (rel v D0.nb 0 (D0,0)).1 (rel v D0.nb 0 (D0,0)).2=R2 at *
 obtain⟨E,q,ref,ok⟩:=R2;dsimp only at Ws Wn;cases ok with
 |false=>cases hs
 |true =>
  cases ref with
  |some l =>
   cases hs;exact⟨wD hK1,mC,(Ws l rfl).2,mC⟩
  |none =>
   obtain⟨hwE,_,_,_,hfE⟩:=Wn rfl;dsimp only at hs;split at hs;{cases hs;exact⟨wD hK1,zHF hK1 (hfE E .refl),mC,(zJJ hK1 (hfE E .refl) (zJB _)).mono oM⟩}
   ·have hm:=(rO (v:=v) (ln:=Dic.ob) (65537-q) E q).1;generalize qG v Dic.ob (65537-q) E q=R3 at *
    obtain⟨F,q',e,ok⟩:=R3;have hfF:=hfE F hm;cases ok with
    |false=>cases hs
    |true =>
     dsimp only at hs;split at hs;{cases hs;exact⟨wD hK1,zHF hK1 hfF,mC,(zJJ hK1 hfF fits_one).mono oM⟩};{cases hs;exact⟨hfF.ob.getD hK1 _,zHF hK1 hfF,zKK hK1 hfF.ob,mC⟩}
abbrev qlv (l:List Rat):PV:=.sl (fun _=>enc cq l)
abbrev ilv (l:List Nat):PV:=.sl (fun _=>enc ci l)
abbrev slv (s:SolR):PV:=.agg [.int .i64 (fun _=>(s.st:Int)),.bool (fun _=>(zJ s.val).neg),nat (zJ s.val).num,nat (zJ s.val).den,qlv s.pt,qlv s.du,qlv s.ry,ilv s.bas,.int .i64 (fun _=>(s.pv:Int))]
def sP (v r : Nat) (D : Dic) (p : Nat) : List (Nat × Obj') :=
  [(13, .box [.int .i64 (fun _ => (v : Int)), .int .i64 (fun _ => (r : Int)), .osl 48 1 (fun _ => 0) (fun _ => D.bs.length), .osl 26 1 (fun _ => 0) (fun _ => D.nb.length), .osl 60 1 (fun _ => 0) (fun _ => D.fs.length), .osl 68 3 (fun _ => 0) (fun _ => D.ob.length), .int .i64 (fun _ => (p : Int))]),
   (48, .arr 1 (fun _ => enc ci D.bs)), (26, .arr 1 (fun _ => enc ci D.nb)), (60, .mat 3 (fun _ => D.fs.map (enc cq)) []), (68, .arr 3 (fun _ => enc cq D.ob))]
theorem zVE (xs:List (List D))(hw:∀ e,e∈xs->e.length=1)(hn:xs.length<2^40):Sound 58 [.osl 1000001 1 (fun _=>0) (fun _=>xs.length)] [(1000001,.arr 1 (fun _=>xs))] [] (.sl (fun _=>xs)) [(1000001,.arr 1 (fun _=>xs))] []:=by refine yW zJ1 rfl rfl rfl rfl rfl ?_;cbv;refine⟨fun b hb=>?_⟩;cbv;refine z6 (fun h=>?_) (fun h=>?_);{have h0:xs.length=0:=hb h;have h1:xs=[]:=jS h0;subst h1;cbv;refine jF (wkZ (ps':=⟨[(2,.nil)],[(1000001,.arr 1 (fun _=>[]))]⟩)) rfl okR (by rfl) okR ?_;exact xB rfl};{cbv;refine zEI zK2 rfl rfl rfl rfl rfl rfl rfl rfl ⟨hw⟩ (yB om (by simp only[f9];(try dsimp only [zI] at *) <;> omega)) rfl ?_;cbv;refine jF (.frz 7 rfl rfl (by cbv;repeat' first|exact trivial|exact yG (by simp)|apply zN) (by cbv;repeat' first|exact trivial|apply zN)) rfl okR (by rfl) okR ?_;refine zY ?_;show (([]++xs).drop 0).take ([].length+xs.length)=xs;simp}
theorem zTI {v:Nat}{ln:Dic->List Rat}(hln:∀ D,ln D=D.ob):∀ (f:Nat) (D:Dic) (p:Nat),0<=(qG v ln f D p).2.2.1->(qG v ln f D p).2.2.1.toNat<(qG v ln f D p).1.nb.length
 |0,D,p,h=>by rw[qG] at h;exact absurd h (by show ¬(0:Int)<=-1;decide)| f+1,D,p,h=>by rw[qG] at h ⊢;split at h;{rename_i h1;rw[if_pos h1];split at h;{exact absurd h (by show ¬(0:Int)<=-1;decide)};{rename_i h2;rw[if_neg h2];split at h;{rename_i h3;rw[if_pos h3];exact (nO (v:=v) (nb:=D.nb) (l:=ln D) h).1};{rename_i h3;rw[if_neg h3];exact zTI hln f _ _ h}}};{exact absurd h (by show ¬(0:Int)<=-1;decide)}
theorem zP2:Pg.funcs[20]?=some Tryz.f20:=by rw[vJ];rfl
theorem zPH {nb:List Nat}{e:Nat}(he:e<nb.length):nb.set e (nb.getD e 0)=nb:=by refine mR fun i=>?_;rw[kV];split;{rename_i h;subst h;obtain⟨x,hx⟩:=zO he;rw[yC,hx];simp[he]};{rfl}
theorem zZB (X:Nat->Rat){nb:List Nat}{l:List Rat}{e:Nat}{k:Rat}(hl:l.length=nb.length+1)(he:e<nb.length):dot X nb (l.set e k)=dot X nb l-l.getD e 0*X (nb.getD e 0)+k*X (nb.getD e 0):=by have h:=oI X (nb.getD e 0) k nb l e hl he;rw[zPH he] at h;exact h
theorem zKL (X:Nat->Rat):∀ {nb:List Nat} {l:List Rat} {c:Rat},l.length=nb.length+1->dot X nb (l.set nb.length c)=dot X nb l-l.getD nb.length 0+c
 |[],[x],c,_=>by show c=x-x+c;grind| [],[],c,h=>by simp at h| [],x::y::l,c,h=>by simp at h| v::vs,[],c,h=>by simp at h| v::vs,x::l,c,h=>by have:=zKL X (nb:=vs) (l:=l) (c:=c) (by simpa using h);show x*X v+dot X vs (l.set vs.length c)=x*X v+dot X vs l-l.getD vs.length 0+c;rw[this];grind
theorem zLS {v i:Nat}(h:i<v):(List.range v).getD i 0=i:=by rw[yC,zLF h];rfl
theorem zJT {v:Nat}{X:Nat->Rat}:∀ {ts:List (Int×Rat)} {l:List Rat},Cn ts->(∀ t,t∈ts->0<=t.1/\t.1<(v:Int))->(∀ t,t∈ts->l.getD t.1.toNat 0=0)->l.length=v+1 ->dot X (List.range v) (lnGo ts l)=dot X (List.range v) l+evX (fun i=>X i.toNat) ts/\(lnGo ts l).getD v 0=l.getD v 0
 |[],l,_,_,_,_=>by refine⟨?_,rfl⟩;show dot X (List.range v) l=dot X (List.range v) l+0;grind| t::r,l,hc,hv,h0,hl=>by
  (have ht:=hv t xD;have htn:t.1.toNat<v:=by omega);obtain⟨h1,h2⟩:=zJT (X:=X) (ts:=r) (l:=l.set t.1.toNat t.2) hc.tail (fun u hu=>hv u (xI _ hu)) (fun u hu=>by have h3:=hc.lt u hu;rw[yC,mQ oM,<-yC];exact h0 u (xI _ hu)) (by rw[kD];exact hl)
  rw[lnGo];refine⟨?_,?_⟩;{rw[h1,zZB X (by rw[dC];exact hl) (by rw[dC];exact htn),h0 t xD,zLS htn];show _=dot X (List.range v) l+(t.2*X t.1.toNat+evX (fun i=>X i.toNat) r);grind};{rw[h2,yC,mQ oM,<-yC]}
theorem zJH {n i:Nat}:(List.replicate n (0:Rat)).getD i 0=0:=by rw[yC,gC];split <;> rfl
theorem zIQ {v:Nat}{f:F}{X:Nat->Rat}(hw:f.wf (v:Int)):atX v X (lnS v f)=f.at (fun i=>X i.toNat):=by
 obtain⟨h1,h2⟩:=zJT (v:=v) (X:=X) (ts:=f.ts) (l:=List.replicate (v+1) 0) hw.cn hw.v (fun t _=>zJH) (by simp);unfold atX lnS;have hlen:(lnGo f.ts (List.replicate (v+1) 0)).length=v+1:=by rw[mB,lI]
 have h3:=zKL X (nb:=List.range v) (l:=lnGo f.ts (List.replicate (v+1) 0)) (c:=f.c) (by rw[dC];exact hlen);rw[dC] at h3;rw[h3,h1,h2,zJH,nQ];unfold F.at
 grind
theorem zC8 {v:Nat}{f:F}{X:Int->Rat}(hw:f.wf (v:Int)):atX v (fun j=>X (j:Int)) (lnS v f)=f.at X:=by rw[zIQ hw];refine zEH fun t ht=>?_;have:=hw.v t ht;show X ((t.1.toNat:Nat):Int)=X t.1;rw[show ((t.1.toNat:Nat):Int)=t.1 by omega]
theorem zBN {v:Nat}{f:F}{l:List Rat}(hw:f.wf (v:Int)):atX v (toX l) (lnS v f)=f.at (xr l):=zIQ hw
def Pts (fs:List F) (X:Int->Rat):Prop:=∀ f,f∈fs->0<=f.at X
structure Sem (fs:List F) (ob:F) (st:Nat) (z:Rat):Prop where
 opt:st=1->(∃ X,Pts fs X/\ob.at X=z)/\∀ X,Pts fs X->z<=ob.at X
 inf:st=2->z=0/\∀ X,¬Pts fs X
 unb:st=3->z=0/\∀ m:Rat,∃ X,Pts fs X/\ob.at X<m
 one:st=1\/st=2\/st=3
theorem zNO:∀ {l:List Rat} {f:Nat->Rat},(∀ c,c∈l->0<=c)->(∀ k,k<l.length->0<=f k)->0<=fP l f
 |[],f,_,_=>qV| q::qs,f,h,g=>by have h1:=zNO (l:=qs) (f:=fun k=>f (k+1)) (fun c hc=>h c (xI _ hc)) (fun k hk=>g (k+1) (by simp only[x7];omega));have h2:=kR (h q xD) (g 0 (by simp));rw[fP];grind
theorem zRV {v:Nat}{fs:List F}{k:Nat}{f:F}(h:fs[k]?=some f):(fs.map (lnS v)).getD k []=lnS v f:=by rw[yC,vU,h];rfl
theorem zNN {v:Nat}{fs:List F}{X:Int->Rat}{du:List Rat}(hw:∀ f,f∈fs->f.wf (v:Int))(hd:du.length=(fs.map (lnS v)).length)(hn:∀ c,c∈du->0<=c)(hX:Pts fs X):0<=fP du (fun k=>atX v (fun j=>X (j:Int)) ((fs.map (lnS v)).getD k [])) :=
 zNO hn fun k hk=>by rw[y8] at hd;obtain⟨f,hf⟩:=zO (show k<fs.length by omega);have hm:=zZ hf;rw[zRV hf,zC8 (hw f hm)];exact hX f hm
theorem zOX {X Y:Nat->Rat}{t:Rat}:∀ {nb:List Nat} {l:List Rat},dot (fun j=>X j+t*Y j) nb l=dot X nb l+t*(dot Y nb l-dot (fun _=>0) nb l)
 |[],l=>by simp only[dot];grind| v::vs,l=>by simp only[dot,zOX (X:=X) (Y:=Y) (t:=t) (nb:=vs) (l:=l.tail)];grind
theorem SolOk.sem {v:Nat}{fs:List F}{ob:F}{s:SolR}(hw:∀ f,f∈fs->f.wf (v:Int))(ho:ob.wf (v:Int))(h:SolOk v (fs.map (lnS v)) (lnS v ob) s):Sem fs ob s.st s.val:=by
 refine⟨fun e=>?_,fun e=>?_,fun e=>?_,h.one⟩;{obtain⟨h1,h2,h3,h4,h5,h6,_⟩:=h.opt e;refine⟨⟨xr s.pt,fun f hf=>?_,?_⟩,fun X hX=>?_⟩;{rw[<-zBN (hw f hf)];exact h2 _ (mO hf)};{rw[<-zBN ho];exact h3};{rw[<-zC8 ho,h6];have:=zNN hw h4 h5 hX;grind}};{obtain⟨_,_,h3,h4,h5,k,hk,h6⟩:=h.inf e;refine⟨h3,fun X hX=>?_⟩;have h7:=zNN hw h4 h5 hX;have h8:=h6 (fun j=>X (j:Int));grind}
 ·(obtain⟨_,h2,_,_,h5,h6,h7⟩:=h.unb e;refine⟨h2,fun m=>?_⟩;have hl:∀ (t:Rat) (f:F),f.wf (v:Int)->f.at (fun i=>toX s.pt i.toNat+t*toX s.ry i.toNat)=atX v (toX s.pt) (lnS v f)+t*(atX v (toX s.ry) (lnS v f)-atX v (fun _=>0) (lnS v f)):=fun t f hf=>by rw[<-zIQ (X:=fun j=>toX s.pt j+t*toX s.ry j) hf];exact zOX);generalize hd:atX v (toX s.ry) (lnS v ob)-atX v (fun _=>0) (lnS v ob)=d at h7;have key:∃ t:Rat,0<=t/\atX v (toX s.pt) (lnS v ob)+t*d<m:=by
   generalize atX v (toX s.pt) (lnS v ob)=a;by_cases h8:a<m;{exact⟨0,qV,by grind⟩}
   ·(have hd0:d≠0:=fun e=>by rw[e] at h7;exact absurd h7 (by decide));have hdn:0 < -d:=by grind
    refine⟨(a-m+1)*(-d)⁻¹,kR (by grind) (dD (iL.2 hdn)),?_⟩;have h9:(-d)⁻¹*(-d)=1:=zBQ _ (by grind);have:(a-m+1)*(-d)⁻¹*d=-(a-m+1):=by
     (have:(a-m+1)*(-d)⁻¹*d=-((a-m+1)*((-d)⁻¹*(-d))):=by grind);rw[this,h9];grind
    rw[this];grind
  obtain⟨t,ht,ht2⟩:=key;refine⟨fun i=>toX s.pt i.toNat+t*toX s.ry i.toNat,fun f hf=>?_,?_⟩;{rw[hl t f (hw f hf)];have h8:=h5 _ (mO hf);have h9:=kR ht (h6 _ (mO hf));grind};{rw[hl t ob ho,hd];exact ht2}
theorem zJS {k:Nat}:∀ {ts:List (Int×Rat)} {l:List Rat},(∀ t,t∈ts->Fits k t.2)->lfit k l->lfit k (lnGo ts l)
 |[],l,_,h=>h| t::r,l,ht,h=>zJS (ts:=r) (fun u hu=>ht u (xI _ hu)) (lfit.set h (ht t xD) _)
theorem zN9 {v k n:Nat}{f:F}(hk:1<=k)(h:f.fl k n):lfit k (lnS v f):=lfit.set (zJS h.t (rR hk)) h.c _
theorem eT {v:Nat}{f:F}:(lnS v f).length=v+1:=by unfold lnS;rw[kD,mB,lI]
theorem zPC {v k n:Nat}{fs:List F}{ob:F}(hk:1<=k)(h:∀ f,f∈fs->f.fl k n)(ho:ob.fl k n):(y6 v (fs.map (lnS v)) (lnS v ob)).fit k:=⟨fun l hl=>by obtain⟨f,hf,rfl⟩:=yS.1 hl;exact zN9 hk (h f hf),zN9 hk ho⟩
theorem SolFit.mono' {m n:Nat}{s:SolR}(h:SolFit m s)(hm:m<=n):SolFit n s:=⟨h.val.mono hm,h.pt.mono hm,h.du.mono hm,h.ry.mono oM⟩
structure Slv (v:Nat) (fs:List F) (ob:F) (K:Nat) (s:SolR):Prop where
 some:r9 v fs.length (y6 v (fs.map (lnS v)) (lnS v ob))=some s
 ok:SolOk v (fs.map (lnS v)) (lnS v ob) s
 pv:s.pv<=65536
 fit:SolFit K s
 piv:∀ E,Pvs (y6 v (fs.map (lnS v)) (lnS v ob)) E->E.fit K
 walk:Walk v fs.length K (y6 v (fs.map (lnS v)) (lnS v ob)) (rel v (y6 v (fs.map (lnS v)) (lnS v ob)).nb 0 (y6 v (fs.map (lnS v)) (lnS v ob),0)).1 (rel v (y6 v (fs.map (lnS v)) (lnS v ob)).nb 0 (y6 v (fs.map (lnS v)) (lnS v ob),0)).2
theorem Walk.mono {v r K L:Nat}{D0 D1:Dic}{p:Nat}(h:Walk v r K D0 D1 p)(hK:K<=L):Walk v r L D0 D1 p :=
 ⟨h.wf,h.bl,h.nl,h.pp,h.ys,h.fit.mono hK,fun a E hE=>(h.aux a E hE).mono hK,fun l hl=>⟨(h.some l hl).1,(h.some l hl).2.mono hK⟩,h.ok,h.q,fun hn=>by obtain⟨a,b,c,d,e⟩:=h.none hn;exact⟨a,b,c,d,fun F hF=>(e F hF).mono hK⟩⟩
def vB:List F->List Rat->F->F
 |f::fs,d::ds,acc=>vB fs ds (acc.add (f.scale d))| _,_,acc=>acc
theorem F.wf.zero {n:Int}:F.zero.wf n:=⟨Cn.nil,fun t ht=>absurd ht (by simp[F.zero])⟩
theorem zE7 {n:Int}:∀ {fs:List F} {ds:List Rat} {acc:F},(∀ f,f∈fs->f.wf n)->acc.wf n->(vB fs ds acc).wf n
 |[],_,_,_,h=>by unfold vB;exact h| f::fs,[],_,_,h=>by unfold vB;exact h| f::fs,d::ds,acc,hw,h=>by unfold vB;exact zE7 (fun g hg=>hw g (xI _ hg)) (h.add (F.wf.scale (hw f xD)))
theorem zNA {v:Nat}{X:Int->Rat}:∀ {fs:List F} {ds:List Rat} {acc:F},(∀ f,f∈fs->f.wf (v:Int))->ds.length=fs.length->(vB fs ds acc).at X=acc.at X+fP ds (fun k=>atX v (fun j=>X (j:Int)) ((fs.map (lnS v)).getD k []))
 |[],[],acc,_,_=>by unfold vB fP;grind| f::fs,[],acc,_,h=>by simp at h| [],d::ds,acc,_,h=>by simp at h| f::fs,d::ds,acc,hw,h=>by unfold vB;rw[zNA (fun g hg=>hw g (xI _ hg)) (by simpa using h),zZN,zEF,fP];show _=acc.at X+(d*atX v (fun j=>X (j:Int)) (lnS v f)+fP ds (fun k=>atX v (fun j=>X (j:Int)) ((fs.map (lnS v)).getD k [])));rw[zC8 (hw f xD)];grind
theorem zOO (v:Int):∀ ts:List (Int×Rat),evX (fun i=>if i=v then 1 else 0) ts=co ts v
 |[]=>rfl| t::r=>by unfold evX co;rw[zOO v r];split <;> grind
theorem zD6:∀ ts:List (Int×Rat),evX (fun _=>0) ts=0
 |[]=>rfl| t::r=>by unfold evX;rw[zD6 r];grind
theorem zKO {f:F}{c:Rat}(hc:Cn f.ts)(h:∀ X,f.at X=c):f.ts=[]/\f.c=c:=by
 have h0:f.c=c:=by have:=h fun _=>0;unfold F.at at this;rw[zD6] at this;grind
 refine⟨Cn.nil_of hc fun v=>?_,h0⟩;have:=h fun i=>if i=v then 1 else 0
 unfold F.at at this;rw[zOO] at this;grind
section
variable {v:Nat} {fs:List F} {ob:F} {s:SolR}
theorem SolOk.sub (hw:∀ f,f∈fs->f.wf (v:Int))(ho:ob.wf (v:Int))(h:SolOk v (fs.map (lnS v)) (lnS v ob) s)(e:s.st=1):(ob.sub (vB fs s.du F.zero)).ts=[]/\(ob.sub (vB fs s.du F.zero)).c=s.val:=by obtain⟨_,_,_,h4,_,h6,_⟩:=h.opt e;rw[y8] at h4;refine zKO (ho.sub (zE7 hw F.wf.zero)).cn fun X=>?_;rw[zIP,zNA hw h4,<-zC8 ho,h6,zHZ];grind
theorem SolOk.neg (hw:∀ f,f∈fs->f.wf (v:Int))(h:SolOk v (fs.map (lnS v)) (lnS v ob) s)(e:s.st=2):(vB fs s.du F.zero).ts=[]/\(vB fs s.du F.zero).c<0:=by
 obtain⟨_,_,_,h4,_,k,hk,h6⟩:=h.inf e;rw[y8] at h4;have:=zKO (c:=-k) (zE7 hw F.wf.zero).cn fun X=>by rw[zNA hw h4,zHZ];have:=h6 fun j=>X (j:Int);grind
 exact⟨this.1,by rw[this.2];grind⟩
def dirF (f:F):F:=⟨f.ts,0⟩
theorem zTR {f:F}{x:List Rat}(hf:f.wf (v:Int)):(dirF f).at (xr x)=atX v (toX x) (lnS v f)-atX v (fun _=>0) (lnS v f):=by rw[zBN hf,zIQ hf];unfold F.at dirF;dsimp only;rw[zD6];grind
end
theorem zO1 {m:Nat}:∀ {fs:List F} {ds:List Rat} {acc:F} {k n:Nat},(∀ f,f∈fs->f.fl 2 12)->lfit m ds->acc.fl k n->(vB fs ds acc).fl (k+(m+6)*fs.length) (n+12*fs.length)
 |[],_,acc,k,n,_,_,h=>by unfold vB;exact h.mono oM oM| f::fs,[],acc,k,n,_,_,h=>by unfold vB;exact h.mono oM oM| f::fs,d::ds,acc,k,n,hf,hd,h=>by unfold vB;refine (zO1 (fun g hg=>hf g (xI _ hg)) (fun c hc=>hd c (xI _ hc)) (h.add ((hf f xD).scale (hd d xD)))).mono ?_ ?_;{rw[x7,zBV];omega};{rw[x7];omega}
theorem zTW {v:Nat}{fs:List F}{ds:List Rat}(hf:∀ f,f∈fs->f.fl 2 12/\f.wf (v:Int))(hl:fs.length<=24)(hn:ds.length=fs.length){m:Nat}(hml:(m+6)*fs.length+2<=2^26)(hd:lfit m ds):(vB fs ds F.zero).fl (2^26) 288:=by have h:F.zero.fl 1 0:=⟨fun t ht=>absurd ht (by simp[F.zero]),wD (by decide),zV _⟩;refine (zO1 (fun f h=>(hf f h).1) hd h).mono ?_ ?_;{omega};{omega}
end Go.Proofs.YtfainocfaddbdaaGreat
