/- A part of the proof: WvD. -/
import Derived.Test.YtfainocfaddbdaaGreatV43
import Derived.Test.YtfainocfaddbdaaGreatV40
set_option linter.all false
namespace Go.Proofs.YtfainocfaddbdaaGreat
open Go
set_option maxRecDepth 100000
set_option maxHeartbeats 4000000
theorem Sod.same {v K:Nat}{fs:List F}{ob:F}{t u:WT}(h:Sod v fs ob K t)(g:Sod v fs ob K u){k n:Nat}(hp:PX v fs ob k n)(hK:K<=2^30):zK 25 [slt t,slt u] (.bool (fun _=>true)):=by obtain⟨s,hs,rfl⟩:=h;obtain⟨r,hr,rfl⟩:=g;obtain⟨h1,h2⟩:=(hs.sem hp).same (hr.sem hp);exact zPN (s:=s) (t:=r) (hs.fit.val.mono hK) h1 h2.symm
theorem Sod.prog {v K:Nat}{fs:List F}{ob:F}{t:WT}(h:Sod v fs ob K t)(hp:PX v fs ob 2 8)(hK:3906250<=K):∃ x,Sod v fs ob K x /\ Sound 40 [.ptr 1000000 0] [(1000000,wB 1000001 v (fA ob).ts (fA ob).c t),(1000001,wR t)] [] (pgo 24 ⟨v,t.us,fA ob⟩) [(1000000,wB 1000001 v (fA ob).ts (fA ob).c t),(1000001,wR t)] [(24,wR t)] /\ Sound 20 [pgo 1000009 ⟨v,t.us,fA ob⟩] [(1000009,wR t)] [] (.tup [slt x,.int .i64 (fun _=>0)]) [(1000009,wR t)] []:=by obtain⟨s,hs,rfl⟩:=h;obtain⟨r,h1,h2⟩:=hp.sgd (K:=K) (by omega);have hl:=hp.len;have hz:=hp.sz;refine⟨WT.of (fs.map fA) r,⟨r,h1,rfl⟩,zPE ⟨v,fs.map fA,fA ob⟩ (by show (fs.map fA).length<_;rw[List.length_map];omega) (fun a ha=>(hz.rows.sz a ha).t.len) hz.ob.t.len true s.st (zS s.val) s.pt s.du s.ry s.bas s.pv 0,h2.call⟩
theorem zN5 (P:Prg)(rows:List A)(h:P.bk (2^20))(hr:(∀ a,a∈rows->a.bk (2^20))/\rows.length<=2^20):zK 14 [pgv P,alv rows] (.bool (fun _=>true)):=by
 have hz:=h.sz (m:=2^32) (Nat.le_refl _) (by decide);have hrz:Asz (2^32) rows:=⟨by omega,fun a ha=>(hr.1 a ha).sz (Nat.le_refl _) (by decide)⟩;have cv:=zIB P hz;have cf:=zFD rows hrz;obtain⟨tru,htru⟩:∃ b,b=true:=⟨_,rfl⟩;have ca:=zCG htru;have facts:P.small=true->qI rows 5=true->∃ J:Nat->WT->WT->Prop,rows.length<=5 /\
   Sound 36 [pgv P] [] [] (.tup [.ptr 10 0,.int .i64 (fun _=>0)]) [] [(10,wB 8 P.v P.ob.ts P.ob.c (WT.new P.rows)),(8,wR (WT.new P.rows))] /\
   J 0 (WT.new P.rows) (WT.new P.rows) /\
   (∀ (i:Nat) a t u,rows[i]?=some a->J i t u->∃ t1 t2 u1 e,Sound 39 [.ptr 1000000 0,av a] [(1000000,wB 31 P.v P.ob.ts P.ob.c t)] [(31,wR t)] (.int .i64 (fun _=>e)) [(1000000,wB 31 P.v P.ob.ts P.ob.c t1)] [(31,wR t1)] /\
    Sound 39 [.ptr 1000000 0,av a] [(1000000,wB 31 P.v P.ob.ts P.ob.c u)] [(31,wR u)] (.int .i64 (fun _=>e)) [(1000000,wB 31 P.v P.ob.ts P.ob.c u1)] [(31,wR u1)] /\
    Sound 37 [.ptr 1000000 0] [(1000000,wB 1000001 P.v P.ob.ts P.ob.c t1),(1000001,wR t1)] [] (.tup [slt t2,.int .i64 (fun _=>0)]) [(1000000,wB 1000001 P.v P.ob.ts P.ob.c t2),(1000001,wR t2)] []/\J (i+1) t2 u1) /\
   ∀ t u,J rows.length t u->∃ t1 u1 x,Sound 37 [.ptr 1000000 0] [(1000000,wB 1000001 P.v P.ob.ts P.ob.c t),(1000001,wR t)] [] (.tup [slt t1,.int .i64 (fun _=>0)]) [(1000000,wB 1000001 P.v P.ob.ts P.ob.c t1),(1000001,wR t1)] [] /\
    Sound 37 [.ptr 1000000 0] [(1000000,wB 1000001 P.v P.ob.ts P.ob.c u),(1000001,wR u)] [] (.tup [slt u1,.int .i64 (fun _=>0)]) [(1000000,wB 1000001 P.v P.ob.ts P.ob.c u1),(1000001,wR u1)] [] /\
    Sound 40 [.ptr 1000000 0] [(1000000,wB 1000001 P.v P.ob.ts P.ob.c t1),(1000001,wR t1)] [] (pgo 24 ⟨P.v,t1.us,P.ob⟩) [(1000000,wB 1000001 P.v P.ob.ts P.ob.c t1),(1000001,wR t1)] [(24,wR t1)] /\
    Sound 20 [pgo 1000009 ⟨P.v,t1.us,P.ob⟩] [(1000009,wR t1)] [] (.tup [slt x,.int .i64 (fun _=>0)]) [(1000009,wR t1)] [] /\
    zK 25 [slt t1,slt u1] (.bool (fun _=>tru))/\zK 25 [slt t1,slt x] (.bool (fun _=>tru)):=fun e1 e2=>by
  obtain⟨v,fs,ob,rfl,hl,hw⟩:=aP e1;obtain⟨r1,r2⟩:=t9 e2;have hp:=hw.px;have hpa:=fun (i:Nat) (hi:i<=rows.length)=>hp.acc (rows:=rows) r2 (by omega) (i:=i) hi;refine⟨fun i t u=>WG v (oL v fs rows i) ob 3906250 t/\WG v (oL v fs rows i) ob 3906250 u,r1,New.of rfl hp,⟨WG.new,WG.new⟩,fun i a t u ha hj=>?_,fun t u hj=>?_⟩;{have hi:i<rows.length:=(List.getElem?_eq_some_iff.1 ha).1;have h1:=aK (v:=v) (fs:=fs) (rows:=rows) (i:=i) (by omega);have hsz:=hrz.sz a (List.mem_of_getElem? ha);obtain⟨t1,g1,c1⟩:=hj.1.add (by decide) a hsz (by omega);obtain⟨u1,g2,c2⟩:=hj.2.add (by decide) a hsz (by omega);rw[<-cJ ha] at g1 g2;obtain⟨t2,g3,c3⟩:=g1.slv (hpa (i+1) (by omega)) (by decide);exact⟨t1,t2,u1,_,c1,c2,c3,g3.good,g2⟩};{have hpn:=hpa rows.length (Nat.le_refl _);obtain⟨t1,g1,c1⟩:=hj.1.slv hpn (by decide);obtain⟨u1,g2,c2⟩:=hj.2.slv hpn (by decide);obtain⟨x,g3,c3,c4⟩:=g1.prog hpn (Nat.le_refl _);exact⟨t1,u1,x,c1,c2,c3,c4,by rw[htru];exact g1.same g2 hpn (by decide),by rw[htru];exact g1.same g3 hpn (by decide)⟩}
 generalize P.small=b at *
 generalize qI rows 5=b2 at *
 clear hz hrz h hr;obtain⟨n,us,ob⟩:=P;obtain⟨ots,oc⟩:=ob;refine sF Tryz.f14 ?_;cbv;refine cA ca ?_;cbv;refine z4 (fun e=>?_) (fun e=>by rw[htru] at e;cases e);cbv;refine cA cv ?_;cbv;refine xO (fun e1=>?_) (fun e1=>?_)
 rotate_left
 ·cbv
  (refine rC ?_;cbv)
  exact zQ rfl
 cbv;refine cA cf ?_;cbv;refine z4 (fun e2=>?_) (fun e2=>?_)
 rotate_left
 ·cbv
  (refine rC ?_;cbv)
  exact zQ rfl
 obtain⟨J,r1,k0,j0,st,en⟩:=facts e1 e2;clear facts cv cf ca;cbv;refine z7 (fun n=>match nqb n 1000000 with|true=>301|false=>match nqb n 1000001 with|true=>302|false=>match nqb n 31 with|true=>302|false=>match nqb n 10 with|true=>301|false=>match nqb n 8 with|true=>302|false=>match nqb n 24 with|true=>305|false=>match nqb n 1000009 with|true=>305|false=>n) (.refl _) rfl okA k0 (by exact trivial) rfl rfl rfl rfl rfl rfl rfl rfl ?_;cbv;refine z7 (fun n=>match nqb n 1000000 with|true=>303|false=>match nqb n 1000001 with|true=>304|false=>match nqb n 31 with|true=>304|false=>match nqb n 10 with|true=>303|false=>match nqb n 8 with|true=>304|false=>n) (.refl _) rfl okA k0 (by exact trivial) rfl rfl rfl rfl rfl rfl rfl rfl ?_;cbv;refine w8 rfl ?_;cbv;refine a9 rfl ?_;cbv;refine z8 (σ:=Nat×WT×WT) (fun s=>⟨[(1,alv rows),(5,.ptr 301 0),(7,.ptr 303 0),(9,.int .i64 (fun _=>(s.1:Int)))],[(301,wB 302 n ots oc s.2.1),(302,wR s.2.1),(303,wB 304 n ots oc s.2.2),(304,wR s.2.2)]⟩)
  (fun s=>s.1<=rows.length/\J s.1 s.2.1 s.2.2) (fun s=>rows.length-s.1) (0,WT.new us,WT.new us) ⟨Nat.zero_le _,j0⟩ (.le okZ (by cbv;repeat' first|exact trivial|exact lR|exact zA rfl|exact zC om|exact zM rfl|exact zJ (by assumption)|exact zQ (by assumption)|exact zH (by assumption)|exact⟨rfl⟩|apply And.intro) rfl) ?_
 intro s hs;obtain⟨i,t,u⟩:=s;obtain⟨hi,hj⟩:=hs;dsimp only at hi hj;cbv;refine zE (fun h5=>?_) (fun h5=>?_)
 ·have hlt:=fW h5;obtain⟨a,ha⟩:=uD hlt;obtain⟨t1,t2,u1,e,q1,q2,q3,q4⟩:=st i a t u ha hj;obtain⟨ats,acc⟩:=a;clear st en;cbv;refine cZ (σ:=Unit) (fun _=>⟨[(1,alv rows),(5,.ptr 301 0),(7,.ptr 303 0),(9,.int .i64 (fun _=>(i:Int))),(60,.nbool (fun _=>decide (e=e)))],[(301,wB 302 n ots oc t1),(302,wR t1),(303,wB 304 n ots oc u1),(304,wR u1)]⟩) (fun _=>True)
   (.le (ps':=⟨[(1,alv rows),(5,.ptr 301 0),(7,.ptr 303 0),(9,.int .i64 (fun _=>(i:Int)))],[(301,wB 302 n ots oc t),(302,wR t),(303,wB 304 n ots oc u),(304,wR u)]⟩) okZ (by cbv;repeat' first|exact trivial|exact lR|exact zA rfl|exact zC om|exact zM rfl|exact zJ (by assumption)|exact zQ (by assumption)|exact zH (by assumption)|exact⟨rfl⟩|apply And.intro) rfl) (by cbv) ?_ ?_
  ·cbv
   repeat' first
    |exact trivial
    |(refine vI ha uN kP ?_;cbv)
    |(refine z7 (fun n=>match nqb n 1000000 with|true=>301|false=>match nqb n 1000001 with|true=>302|false=>match nqb n 31 with|true=>302|false=>match nqb n 10 with|true=>301|false=>match nqb n 8 with|true=>302|false=>match nqb n 24 with|true=>305|false=>match nqb n 1000009 with|true=>305|false=>n) (.refl _) rfl okA q1 (by exact⟨⟨rfl,rfl⟩,⟨rfl,rfl⟩,trivial⟩) rfl rfl rfl rfl rfl rfl rfl rfl ?_;cbv)| (refine z7 (fun n=>match nqb n 1000000 with|true=>303|false=>match nqb n 1000001 with|true=>304|false=>match nqb n 31 with|true=>304|false=>match nqb n 10 with|true=>303|false=>match nqb n 8 with|true=>304|false=>n) (.refl _) rfl okA q2 (by exact⟨⟨rfl,rfl⟩,⟨rfl,rfl⟩,trivial⟩) rfl rfl rfl rfl rfl rfl rfl rfl ?_;cbv)
    |exact⟨(),trivial,.le okZ (by cbv;repeat' first|exact trivial|exact lR|exact zA rfl|exact zC om|exact zM rfl|exact zJ (by assumption)|exact zQ (by assumption)|exact zH (by assumption)|exact⟨rfl⟩|apply And.intro) rfl⟩
    |apply And.intro
   done
  intro _ _;cbv;refine tQ rfl ?_;cbv;refine z7 (fun n=>match nqb n 1000000 with|true=>301|false=>match nqb n 1000001 with|true=>302|false=>match nqb n 31 with|true=>302|false=>match nqb n 10 with|true=>301|false=>match nqb n 8 with|true=>302|false=>match nqb n 24 with|true=>305|false=>match nqb n 1000009 with|true=>305|false=>n) (.refl _) rfl okA q3 (by exact⟨⟨rfl,rfl⟩,⟨rfl,rfl⟩,trivial⟩) rfl rfl rfl rfl rfl rfl rfl rfl ?_;cbv;exact⟨zD om om,(i+1,t2,u1),⟨hlt,q4⟩,by show rows.length-(i+1)<rows.length-i;omega,.le okZ (by cbv;repeat' first|exact trivial|exact lR|exact zA rfl|exact zC om|exact zM rfl|exact zJ (by assumption)|exact zQ (by assumption)|exact zH (by assumption)|exact⟨rfl⟩|apply And.intro) rfl⟩
 ·(have he:i=rows.length:=by have:=aH h5 hi;omega);subst he
  obtain⟨t1,u1,x,q1,q2,q3,q4,q5,q6⟩:=en t u hj;clear st en;cbv;refine z7 (fun n=>match nqb n 1000000 with|true=>301|false=>match nqb n 1000001 with|true=>302|false=>match nqb n 31 with|true=>302|false=>match nqb n 10 with|true=>301|false=>match nqb n 8 with|true=>302|false=>match nqb n 24 with|true=>305|false=>match nqb n 1000009 with|true=>305|false=>n) (.refl _) rfl okA q1 (by exact⟨⟨rfl,rfl⟩,⟨rfl,rfl⟩,trivial⟩) rfl rfl rfl rfl rfl rfl rfl rfl ?_;cbv;refine z7 (fun n=>match nqb n 1000000 with|true=>303|false=>match nqb n 1000001 with|true=>304|false=>match nqb n 31 with|true=>304|false=>match nqb n 10 with|true=>303|false=>match nqb n 8 with|true=>304|false=>n) (.refl _) rfl okA q2 (by exact⟨⟨rfl,rfl⟩,⟨rfl,rfl⟩,trivial⟩) rfl rfl rfl rfl rfl rfl rfl rfl ?_;cbv;refine z7 (fun n=>match nqb n 1000000 with|true=>301|false=>match nqb n 1000001 with|true=>302|false=>match nqb n 31 with|true=>302|false=>match nqb n 10 with|true=>301|false=>match nqb n 8 with|true=>302|false=>match nqb n 24 with|true=>305|false=>match nqb n 1000009 with|true=>305|false=>n) (.refl _) rfl okA q3 (by exact⟨⟨rfl,rfl⟩,⟨rfl,rfl⟩,trivial⟩) rfl rfl rfl rfl rfl rfl rfl rfl ?_;cbv;refine z7 (fun n=>match nqb n 1000000 with|true=>301|false=>match nqb n 1000001 with|true=>302|false=>match nqb n 31 with|true=>302|false=>match nqb n 10 with|true=>301|false=>match nqb n 8 with|true=>302|false=>match nqb n 24 with|true=>305|false=>match nqb n 1000009 with|true=>305|false=>n) (.refl _) rfl okA q4 (by exact⟨⟨rfl,rfl⟩,trivial⟩) rfl rfl rfl rfl rfl rfl rfl rfl ?_;cbv;refine w8 rfl ?_;cbv;refine w8 rfl ?_;cbv;refine w8 rfl ?_;cbv;refine cA q5 ?_;cbv;refine xO (fun e=>?_) (fun e=>by rw[htru] at e;cases e);cbv;refine cA q6 ?_;cbv
  (refine rC ?_;cbv)
  exact zH htru
end Go.Proofs.YtfainocfaddbdaaGreat
