/- A part of the proof: WvB. -/
import Derived.Test.YtfainocfaddbdaaGreatV41
import Derived.Test.YtfainocfaddbdaaGreatV40
set_option linter.all false
namespace Go.Proofs.YtfainocfaddbdaaGreat
open Go
set_option maxRecDepth 100000
set_option maxHeartbeats 4000000
theorem zFD (us:List A)(ha:Asz (2^32) us):zK 35 [alv us] (.bool (fun _=>qI us 5)):=by
 have cs:=zKC us 5 ha;generalize qI us 5=b at *
 refine sF Tryz.f35 ?_;cbv;refine cA cs ?_;cbv
 (refine rC ?_;cbv)
 exact lR
abbrev slt (t:WT):PV:=.agg [.int .i64 (fun _=>t.st),.bool (fun _=>t.z.neg),nat t.z.num,nat t.z.den,qlv t.pt,qlv t.du,qlv t.ry,ilv t.bas,.int .i64 (fun _=>t.pv)]
abbrev slb (t:WT):Obj':=.box [.int .i64 (fun _=>t.st),.bool (fun _=>t.z.neg),nat t.z.num,nat t.z.den,qlv t.pt,qlv t.du,qlv t.ry,ilv t.bas,.int .i64 (fun _=>t.pv)]
def Sod (v:Nat) (fs:List F) (ob:F) (K:Nat) (t:WT):Prop:=∃ s,Sgd v fs ob K s/\t=WT.of (fs.map fA) s
theorem Sod.good {v K:Nat}{fs:List F}{ob:F}{t:WT}(h:Sod v fs ob K t):WG v fs ob K t:=by obtain⟨s,hs,rfl⟩:=h;exact hs.good
theorem WG.slv {v k n K:Nat}{fs:List F}{ob:F}{t:WT}(h:WG v fs ob K t)(hp:PX v fs ob k n)(hK:1953125*k<=K):∃ t',Sod v fs ob K t' /\ Sound 37 [.ptr 1000000 0] [(1000000,wB 1000001 v (fA ob).ts (fA ob).c t),(1000001,wR t)] [] (.tup [slt t',.int .i64 (fun _=>0)]) [(1000000,wB 1000001 v (fA ob).ts (fA ob).c t'),(1000001,wR t')] []:=by obtain⟨s,hs,c⟩:=h.solve hp hK;exact⟨WT.of (fs.map fA) s,⟨s,hs,rfl⟩,c⟩
theorem zE1 {v:Nat}{fs:List F}{ob:F}{x:A}{a b:Nat}{y z:Rat}(h:Sem fs ob a y)(g:Sem (nT v fs x) ob b z):(a=2->b=2)/\(a=1->b≠3/\(b=1->y<=z)):=by unfold nT at g;split at g;{exact h.grows g};{obtain⟨rfl,rfl⟩:=h.same g;exact⟨fun e=>e,fun e=>⟨by omega,fun _=>Rat.le_refl⟩⟩}
theorem Sod.grow {v K:Nat}{fs:List F}{ob:F}{t:WT}(h:Sod v fs ob K t)(hp:PX v fs ob 2 8)(hK:3906250<=K)(hK2:K<=2^30)(a:A)(ha:a.small=true)(hsz:a.sz (2^32))(hl:fs.length<14):∃ t1 t2 c,Sound 39 [.ptr 1000000 0,av a] [(1000000,wB 31 v (fA ob).ts (fA ob).c t)] [(31,wR t)] (.int .i64 (fun _=>addE v a)) [(1000000,wB 31 v (fA ob).ts (fA ob).c t1)] [(31,wR t1)] /\ Sound 37 [.ptr 1000000 0] [(1000000,wB 1000001 v (fA ob).ts (fA ob).c t1),(1000001,wR t1)] [] (.tup [slt t2,.int .i64 (fun _=>0)]) [(1000000,wB 1000001 v (fA ob).ts (fA ob).c t2),(1000001,wR t2)] [] /\ Sod v (nT v fs a) ob K t2/\zK 30 [rv t2.z,rv t.z] (.int .i64 (fun _=>c))/\(t.st=2->t2.st=2)/\(t.st=1->t2.st≠3/\(t2.st=1->0<=c)):=by
 obtain⟨t1,g1,c1⟩:=h.good.add (by omega) a hsz hl;have hp1:=hp.add ha hl;obtain⟨t2,g2,c2⟩:=g1.slv hp1 (K:=K) (by omega);obtain⟨s,hs,rfl⟩:=h;obtain⟨s2,hs2,rfl⟩:=id g2;obtain⟨m1,m2⟩:=zE1 (hs.sem hp) (hs2.sem hp1);have z1:(zS s.val).sz (2^31):=(yX (hs.fit.val.mono hK2)).mono (by decide);have z2:(zS s2.val).sz (2^31):=(yX (hs2.fit.val.mono hK2)).mono (by decide);have cm:=s42 (zS s2.val) (zS s.val) (z2.mono (by decide)) (z1.mono (by decide));rw[y6,y6] at cm;refine⟨t1,_,_,c1,c2,g2,cm,fun e=>?_,fun e=>?_⟩
 ·(have:s.st=2:=by have:((s.st:Nat):Int)=2:=e;omega);have:=m1 this
  show ((s2.st:Nat):Int)=2;omega
 ·(have e1:s.st=1:=by have:((s.st:Nat):Int)=1:=e;omega);obtain⟨h1,h2⟩:=m2 e1
  refine⟨fun e2=>h1 ?_,fun e2=>?_⟩;{have:((s2.st:Nat):Int)=3:=e2;omega};{have h3:=h2 (by have:((s2.st:Nat):Int)=1:=e2;omega);unfold f6;split <;> (try split) <;> grind}
theorem New.of {P:Prg}{v:Nat}{fs:List F}{ob:F}(e:P=prg v fs ob)(hp:PX v fs ob 2 8):Sound 36 [pgv P] [] [] (.tup [.ptr 10 0,.int .i64 (fun _=>0)]) [] [(10,wB 8 P.v P.ob.ts P.ob.c (WT.new P.rows)),(8,wR (WT.new P.rows))]:=by subst e;exact zMV (prg v fs ob) (hp.sz.mono (by decide)) (by show (fs.map fA).length<_;rw[List.length_map];have:=hp.len;omega) hp.valid
theorem t9 {rows:List A}(h:qI rows 5=true):rows.length<=5/\∀ a,a∈rows->a.small=true:=by unfold qI at h;simp only[Bool.and_eq_true,decide_eq_true_eq,List.all_eq_true] at h;exact⟨by omega,h.2⟩
theorem zN6 (P:Prg)(rows:List A)(h:P.bk (2^20))(hr:(∀ a,a∈rows->a.bk (2^20))/\rows.length<=2^20):zK 13 [pgv P,alv rows] (.bool (fun _=>true)):=by
 have hz:=h.sz (m:=2^32) (Nat.le_refl _) (by decide);have hrz:Asz (2^32) rows:=⟨by omega,fun a ha=>(hr.1 a ha).sz (Nat.le_refl _) (by decide)⟩;have cv:=zIB P hz;have cf:=zFD rows hrz;obtain⟨tru,htru⟩:∃ b,b=true:=⟨_,rfl⟩;have ca:=zCG htru;have facts:P.small=true->qI rows 5=true->∃ J:Nat->WT->Prop,rows.length<=5 /\
   Sound 36 [pgv P] [] [] (.tup [.ptr 10 0,.int .i64 (fun _=>0)]) [] [(10,wB 8 P.v P.ob.ts P.ob.c (WT.new P.rows)),(8,wR (WT.new P.rows))] /\
   (∃ t1,J 0 t1/\Sound 37 [.ptr 1000000 0] [(1000000,wB 1000001 P.v P.ob.ts P.ob.c (WT.new P.rows)),(1000001,wR (WT.new P.rows))] [] (.tup [slt t1,.int .i64 (fun _=>0)]) [(1000000,wB 1000001 P.v P.ob.ts P.ob.c t1),(1000001,wR t1)] []) /\
   ∀ (i:Nat) a t,rows[i]?=some a->J i t->∃ t1 t2 c e,Sound 39 [.ptr 1000000 0,av a] [(1000000,wB 31 P.v P.ob.ts P.ob.c t)] [(31,wR t)] (.int .i64 (fun _=>e)) [(1000000,wB 31 P.v P.ob.ts P.ob.c t1)] [(31,wR t1)] /\
    Sound 37 [.ptr 1000000 0] [(1000000,wB 1000001 P.v P.ob.ts P.ob.c t1),(1000001,wR t1)] [] (.tup [slt t2,.int .i64 (fun _=>0)]) [(1000000,wB 1000001 P.v P.ob.ts P.ob.c t2),(1000001,wR t2)] [] /\
    J (i+1) t2/\zK 30 [rv t2.z,rv t.z] (.int .i64 (fun _=>c))/\(t.st=2->t2.st=2)/\(t.st=1->t2.st≠3/\(t2.st=1->0<=c)):=fun e1 e2=>by
  (obtain⟨v,fs,ob,rfl,hl,hw⟩:=aP e1;obtain⟨r1,r2⟩:=t9 e2;have hp:=hw.px;have hpa:=fun (i:Nat) (hi:i<=rows.length)=>hp.acc (rows:=rows) r2 (by omega) (i:=i) hi;obtain⟨t1,j1,c1⟩:=(WG.new (v:=v) (fs:=fs) (ob:=ob) (K:=3906250)).slv hp (by decide);refine⟨fun i t=>Sod v (oL v fs rows i) ob 3906250 t,r1,New.of rfl hp,⟨t1,j1,c1⟩,fun i a t ha hj=>?_⟩;have hi:i<rows.length:=by have:=List.getElem?_eq_some_iff.1 ha;exact this.1);have h1:=aK (v:=v) (fs:=fs) (rows:=rows) (i:=i) (by omega);obtain⟨t1,t2,c,k1,k2,k3,k4⟩:=hj.grow (hpa i (by omega)) (Nat.le_refl _) (by decide) a (r2 a (List.mem_of_getElem? ha)) (hrz.sz a (List.mem_of_getElem? ha)) (by omega);exact⟨t1,t2,c,_,k1,k2,by show Sod v (oL v fs rows (i+1)) ob 3906250 t2;rw[cJ ha];exact k3,k4⟩
 generalize P.small=b at *
 generalize qI rows 5=b2 at *
 clear hz hrz h hr;obtain⟨n,us,ob⟩:=P;obtain⟨ots,oc⟩:=ob;refine sF Tryz.f13 ?_;cbv;refine cA ca ?_;cbv;refine z4 (fun e=>?_) (fun e=>by rw[htru] at e;cases e);cbv;refine cA cv ?_;cbv;refine xO (fun e1=>?_) (fun e1=>?_)
 rotate_left
 ·cbv
  (refine rC ?_;cbv)
  exact zQ rfl
 cbv;refine cA cf ?_;cbv;refine z4 (fun e2=>?_) (fun e2=>?_)
 rotate_left
 ·cbv
  (refine rC ?_;cbv)
  exact zQ rfl
 obtain⟨J,r1,k0,⟨t1,j1,c1⟩,st⟩:=facts e1 e2;clear facts cv cf ca;cbv;refine z7 (fun n=>match nqb n 1000000 with|true=>301|false=>match nqb n 1000001 with|true=>302|false=>match nqb n 31 with|true=>302|false=>match nqb n 10 with|true=>301|false=>match nqb n 8 with|true=>302|false=>n) (.refl _) rfl okA k0 (by exact trivial) rfl rfl rfl rfl rfl rfl rfl rfl ?_;cbv;refine a9 rfl ?_;cbv;refine z7 (fun n=>match nqb n 1000000 with|true=>301|false=>match nqb n 1000001 with|true=>302|false=>match nqb n 31 with|true=>302|false=>match nqb n 10 with|true=>301|false=>match nqb n 8 with|true=>302|false=>n) (.refl _) rfl okA c1 (by exact⟨⟨rfl,rfl⟩,⟨rfl,rfl⟩,trivial⟩) rfl rfl rfl rfl rfl rfl rfl rfl ?_;cbv;refine z8 (σ:=Nat×WT) (fun s=>⟨[(1,alv rows),(5,.ptr 301 0),(7,.ptr 7 0),(8,.int .i64 (fun _=>0)),(9,.int .i64 (fun _=>(s.1:Int)))],[(301,wB 302 n ots oc s.2),(302,wR s.2),(7,slb s.2)]⟩)
  (fun s=>s.1<=rows.length/\J s.1 s.2) (fun s=>rows.length-s.1) (0,t1) ⟨Nat.zero_le _,j1⟩ (.le okZ (by cbv;repeat' first|exact trivial|exact lR|exact zA rfl|exact zC om|exact zM rfl|exact zJ (by assumption)|exact zQ (by assumption)|exact zH (by assumption)|exact⟨rfl⟩|apply And.intro) rfl) ?_
 intro s hs;obtain⟨i,t⟩:=s;obtain⟨hi,hj⟩:=hs;dsimp only at hi hj;cbv;refine zE (fun h5=>?_) (fun h5=>?_)
 ·have hlt:=fW h5;obtain⟨a,ha⟩:=uD hlt;obtain⟨w1,w2,c,e,q1,q2,q3,q4,q5,q6⟩:=st i a t ha hj;obtain⟨ats,acc⟩:=a;cbv;refine vI ha uN kP ?_;cbv;refine z7 (fun n=>match nqb n 1000000 with|true=>301|false=>match nqb n 1000001 with|true=>302|false=>match nqb n 31 with|true=>302|false=>match nqb n 10 with|true=>301|false=>match nqb n 8 with|true=>302|false=>n) (.refl _) rfl okA q1 (by exact⟨⟨rfl,rfl⟩,⟨rfl,rfl⟩,trivial⟩) rfl rfl rfl rfl rfl rfl rfl rfl ?_;cbv;refine z7 (fun n=>match nqb n 1000000 with|true=>301|false=>match nqb n 1000001 with|true=>302|false=>match nqb n 31 with|true=>302|false=>match nqb n 10 with|true=>301|false=>match nqb n 8 with|true=>302|false=>n) (.refl _) rfl okA q2 (by exact⟨⟨rfl,rfl⟩,⟨rfl,rfl⟩,trivial⟩) rfl rfl rfl rfl rfl rfl rfl rfl ?_;cbv;refine w8 rfl ?_;cbv;refine a9 rfl ?_;cbv;refine zE (fun e1=>?_) (fun e1=>?_);{cbv;refine zE (fun e2=>?_) (fun e2=>absurd (q5 e1) e2);cbv;exact⟨zD om om,(i+1,w2),⟨hlt,q3⟩,by show rows.length-(i+1)<rows.length-i;omega,.le okZ (by cbv;repeat' first|exact trivial|exact lR|exact zA rfl|exact zC om|exact zM rfl|exact zJ (by assumption)|exact zQ (by assumption)|exact zH (by assumption)|exact⟨rfl⟩|apply And.intro) rfl⟩};cbv;refine zE (fun e2=>?_) (fun e2=>?_)
  rotate_left
  {cbv;exact⟨zD om om,(i+1,w2),⟨hlt,q3⟩,by show rows.length-(i+1)<rows.length-i;omega,.le okZ (by cbv;repeat' first|exact trivial|exact lR|exact zA rfl|exact zC om|exact zM rfl|exact zJ (by assumption)|exact zQ (by assumption)|exact zH (by assumption)|exact⟨rfl⟩|apply And.intro) rfl⟩};obtain⟨q7,q8⟩:=q6 e2;cbv;refine yD (fun e3=>absurd e3 q7) (fun e3=>?_);cbv;refine yD (fun e4=>?_) (fun e4=>?_)
  rotate_left
  {cbv;exact⟨zD om om,(i+1,w2),⟨hlt,q3⟩,by show rows.length-(i+1)<rows.length-i;omega,.le okZ (by cbv;repeat' first|exact trivial|exact lR|exact zA rfl|exact zC om|exact zM rfl|exact zJ (by assumption)|exact zQ (by assumption)|exact zH (by assumption)|exact⟨rfl⟩|apply And.intro) rfl⟩};have q9:=q8 e4;cbv;refine cA q4 ?_;cbv;refine zE (fun e5=>absurd q9 (by omega)) (fun e5=>?_);cbv;exact⟨zD om om,(i+1,w2),⟨hlt,q3⟩,by show rows.length-(i+1)<rows.length-i;omega,.le okZ (by cbv;repeat' first|exact trivial|exact lR|exact zA rfl|exact zC om|exact zM rfl|exact zJ (by assumption)|exact zQ (by assumption)|exact zH (by assumption)|exact⟨rfl⟩|apply And.intro) rfl⟩
 ·cbv
  (refine rC ?_;cbv)
  exact zQ rfl
end Go.Proofs.YtfainocfaddbdaaGreat
