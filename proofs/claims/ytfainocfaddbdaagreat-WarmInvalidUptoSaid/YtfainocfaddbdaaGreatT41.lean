/- A part of the proof: WtB, WtC, WvA, WvI. -/
import Derived.Test.YtfainocfaddbdaaGreatT40
import Derived.Test.YtfainocfaddbdaaGreatT38
set_option linter.all false
namespace Go.Proofs.YtfainocfaddbdaaGreat
open Go
set_option maxRecDepth 100000
set_option maxHeartbeats 4000000
structure PX (v:Nat) (fs:List F) (ob:F) (k n:Nat):Prop where
 lv:v<=4
 len:fs.length<=14
 rows:∀ f,f∈fs->f.fl k n/\f.wf (v:Int)
 obj:ob.fl k n/\ob.wf (v:Int)
 k1:1<=k
 k2:k<=500
 hn:n<2^20
structure AnsO (v:Nat) (fs:List F) (ob:F) (K:Nat) (s:SolR):Prop where
 sl:Slv v fs ob K s
 sem:Sem fs ob s.st s.val
 call:Sound 20 [pgo 1000009 (prg v fs ob)] (rwO 1000009 (fs.map fA)) [] (.tup [slv s,.int .i64 (fun _=>0)]) (rwO 1000009 (fs.map fA)) []
section
variable {v k n:Nat} {fs:List F} {ob:F}
theorem PX.valid (h:PX v fs ob k n):(prg v fs ob).valid=true:=by have:=h.lv;have:=h.len;unfold Prg.valid;show (decide (0<=(v:Int)/\(v:Int)<=1280/\(fs.map fA).length<=4096)&&(fA ob).valid (v:Int)&&(fs.map fA).all (A.valid (v:Int)))=true;rw[decide_eq_true (by rw[List.length_map];omega),h.obj.2.valid,zOF fun f hf=>(h.rows f hf).2];rfl
theorem PX.sz (h:PX v fs ob k n):(prg v fs ob).sz k where
 rows:=⟨by show (fs.map fA).length<_;rw[List.length_map];have:=h.len;omega,fun a ha=>by obtain⟨f,hf,rfl⟩:=List.mem_map.1 ha;exact ((h.rows f hf).1.fit (by have:=h.hn;omega)).fA⟩
 ob:=(h.obj.1.fit (by have:=h.hn;omega)).fA
theorem PX.solve (h:PX v fs ob k n):∃ s,AnsO v fs ob (1953125*k) s:=by
 obtain⟨s,hs⟩:=zOP (K:=1953125*k) h.lv h.len h.k1 (fun f hf=>(h.rows f hf).1) h.obj.1 (Nat.le_refl _);have hk:1953125*k<=2^30:=by have:=h.k2;omega
 have h1:=h.hn;have h2:=h.lv;have h3:=h.len;exact⟨s,hs,hs.ok.sem (fun f hf=>(h.rows f hf).2) h.obj.2,zGY v 0 fs ob s (h.sz.mono (by have:=h.k2;omega)) h.valid (by omega) (by omega)
  (fun f hf=>⟨by have:=(h.rows f hf).1.len;omega,(h.rows f hf).2.v⟩) (by have:=h.obj.1.len;omega) h.obj.2.v (fun E hE=>(hs.piv E hE).mono hk) (hs.walk.mono hk) hs.some⟩
theorem PX.more (h:PX v fs ob k n){f:F}(hl:fs.length<14)(hf:f.fl k n/\f.wf (v:Int)):PX v (fs++[f]) ob k n :=
 ⟨h.lv,by rw[List.length_append];show fs.length+1<=14;omega,fun g hg=>by
  rcases List.mem_append.1 hg with w|w;{exact h.rows g w}
  ·rw[List.mem_singleton.1 w];exact hf,h.obj,h.k1,h.k2,h.hn⟩
end
theorem zE0 {fs:List F}{ob:F}{st:Nat}{z w:Rat}(h:Sem fs ob st z)(lo:∀ X,Pts fs X->w<=ob.at X){X:Int->Rat}(hX:Pts fs X)(e:ob.at X=w):st=1/\z=w:=by rcases h.one with e1|e1|e1;{obtain⟨⟨Y,y1,y2⟩,y3⟩:=h.opt e1;have h1:=lo Y y1;have h2:=y3 X hX;exact⟨e1,by grind⟩};{exact absurd hX ((h.inf e1).2 X)};{obtain⟨Y,y1,y2⟩:=(h.unb e1).2 w;have h1:=lo Y y1;exact absurd y2 (by grind)}
theorem zNV {fs:List F}{ob:F}{st:Nat}{z:Rat}(h:Sem fs ob st z)(no:∀ X,¬Pts fs X):st=2:=by rcases h.one with e|e|e;{obtain⟨⟨Y,y1,y2⟩,y3⟩:=h.opt e;exact absurd y1 (no Y)};{exact e};{obtain⟨Y,y1,y2⟩:=(h.unb e).2 2;exact absurd y1 (no Y)}
def wR1:List F:=[frm 1 0 0,frm 0 1 0]
def wR2:List F:=wR1++[frm 1 2 (-4)]
def wR3:List F:=wR2++[frm 1 (-1) 0]
def wR4:List F:=wR3++[frm (-1) 0 1]
theorem zLV (X:Int->Rat):(frm 1 (-1) 0).at X=X 0-X 1/\(frm (-1) 0 1).at X=1-X 0:=by
 have e1:frm 1 (-1) 0=⟨[(0,1),(1,-1)],0⟩:=by unfold frm;congr 1
 have e2:frm (-1) 0 1=⟨[(0,-1)],1⟩:=by unfold frm;congr 1
 rw[e1,e2,at2,at1];refine⟨?_,?_⟩ <;> grind
theorem wp1 {X:Int->Rat}:Pts wR1 X↔0<=X 0/\0<=X 1:=by obtain⟨h1,h2,h3,h4,h5,h6⟩:=zKI X;unfold wR1 Pts;simp only[List.mem_cons,List.not_mem_nil,or_false,forall_eq_or_imp,forall_eq,h2,h3]
theorem wp2 {X:Int->Rat}:Pts wR2 X↔(0<=X 0/\0<=X 1)/\0<=X 0+2*X 1-4:=by obtain⟨h1,h2,h3,h4,h5,h6⟩:=zKI X;unfold wR2;rw[fC,wp1,h1]
theorem wp3 {X:Int->Rat}:Pts wR3 X↔((0<=X 0/\0<=X 1)/\0<=X 0+2*X 1-4)/\0<=X 0-X 1:=by unfold wR3;rw[fC,wp2,(zLV X).1]
theorem wp4 {X:Int->Rat}:Pts wR4 X↔(((0<=X 0/\0<=X 1)/\0<=X 0+2*X 1-4)/\0<=X 0-X 1)/\0<=1-X 0:=by unfold wR4;rw[fC,wp3,(zLV X).2]
theorem wob (X:Int->Rat):(frm 1 1 0).at X=X 0+X 1:=(zKI X).2.2.2.1
theorem wpt (a b:Rat):∃ X:Int->Rat,X 0=a/\X 1=b:=⟨fun i=>if i=1 then b else a,rfl,rfl⟩
theorem wx1 {st:Nat}{z:Rat}(h:Sem wR1 (frm 1 1 0) st z):st=1/\z=0:=by obtain⟨X,e0,e1⟩:=wpt 0 0;refine zE0 h (fun Y hY=>?_) (X:=X) (wp1.2 (by rw[e0,e1];decide +kernel)) (by rw[wob,e0,e1];decide +kernel);have:=wp1.1 hY;rw[wob];grind
theorem wx2 {st:Nat}{z:Rat}(h:Sem wR2 (frm 1 1 0) st z):st=1/\z=2:=by obtain⟨X,e0,e1⟩:=wpt 0 2;refine zE0 h (fun Y hY=>?_) (X:=X) (wp2.2 (by rw[e0,e1];decide +kernel)) (by rw[wob,e0,e1];decide +kernel);have:=wp2.1 hY;rw[wob];grind
theorem wx3 {st:Nat}{z:Rat}(h:Sem wR3 (frm 1 1 0) st z):st=1/\z=8/3:=by obtain⟨X,e0,e1⟩:=wpt (4/3) (4/3);refine zE0 h (fun Y hY=>?_) (X:=X) (wp3.2 (by rw[e0,e1];refine⟨⟨⟨?_,?_⟩,?_⟩,?_⟩ <;> grind)) (by rw[wob,e0,e1];grind);have:=wp3.1 hY;rw[wob];grind
theorem wx4 {st:Nat}{z:Rat}(h:Sem wR4 (frm 1 1 0) st z):st=2:=zNV h fun X hX=>by have:=wp4.1 hX;grind
theorem wq1:PX 2 wR1 (frm 1 1 0) 5 2:=⟨by decide,by decide,fun f hf=>by
 have:f=frm 1 0 0\/f=frm 0 1 0:=by simpa[wR1] using hf
 rcases this with rfl|rfl;{exact⟨s6 (by decide) (by decide) (by decide),oG (by decide +kernel)⟩}
 ·exact⟨s6 (by decide) (by decide) (by decide),oG (by decide +kernel)⟩,⟨s6 (by decide) (by decide) (by decide),oG (by decide +kernel)⟩,by decide,by decide,by decide⟩
theorem wq2:PX 2 wR2 (frm 1 1 0) 5 2:=wq1.more (by decide) ⟨s6 (by decide) (by decide) (by decide),oG (by decide +kernel)⟩
theorem wq3:PX 2 wR3 (frm 1 1 0) 5 2:=wq2.more (by decide) ⟨s6 (by decide) (by decide) (by decide),oG (by decide +kernel)⟩
theorem wq4:PX 2 wR4 (frm 1 1 0) 5 2:=wq3.more (by decide) ⟨s6 (by decide) (by decide) (by decide),oG (by decide +kernel)⟩
theorem oS {c0 c1 c:Int}(h0:c0.natAbs<=8)(h1:c1.natAbs<=8)(h2:c.natAbs<=8):zM 76 [.int .i64 (fun _=>c0),.int .i64 (fun _=>c1),.int .i64 (fun _=>c)] (av (fA (frm c0 c1 c))):=by
 have cf:=zK9 h0 h1 h2;have k0:=s32 c0 (by omega) (by omega);have k1:=s32 c1 (by omega) (by omega);have k2:=s32 c (by omega) (by omega);refine sF Tryz.f76 ?_;obtain⟨a,ha⟩:∃ a,fA (frm c0 c1 c)=a:=⟨_,rfl⟩;rw[ha] at cf;rw[ha];obtain⟨ats,ac0⟩:=a;obtain⟨A0,hA0⟩:∃ a,zS (c0:Rat)=a:=⟨_,rfl⟩;obtain⟨A1,hA1⟩:∃ a,zS (c1:Rat)=a:=⟨_,rfl⟩;obtain⟨A2,hA2⟩:∃ a,zS (c:Rat)=a:=⟨_,rfl⟩;rw[hA0] at k0 cf;rw[hA1] at k1 cf;rw[hA2] at k2 cf;clear hA0 hA1 hA2;cbv;refine cA k0 ?_;cbv;refine cA k1 ?_;cbv;refine cA k2 ?_;cbv;refine cA cf ?_;cbv
 (refine rC ?_;cbv)
 exact okA
theorem zE5 {c0 c1 c:Int}(h0:c0.natAbs<=8)(h1:c1.natAbs<=8)(h2:c.natAbs<=8):(fA (frm c0 c1 c)).sz (2^32):=(((s6 h0 h1 h2).fit (by decide)).fA).mono (by decide)
theorem zOY:zM 34 [] (.bool (fun _=>true)):=by
 obtain⟨s1,a1⟩:=wq1.solve;obtain⟨s2,a2⟩:=wq2.solve;obtain⟨s3,a3⟩:=wq3.solve;obtain⟨s4,a4⟩:=wq4.solve;obtain⟨t1,z1⟩:=wx1 a1.sem;obtain⟨t2,z2⟩:=wx2 a2.sem;obtain⟨t3,z3⟩:=wx3 a3.sem;have t4:=wx4 a4.sem;have l1:=a1.sl.lens wq1.lv wq1.len;have l2:=a2.sl.lens wq2.lv wq2.len;have l3:=a3.sl.lens wq3.lv wq3.len;have l4:=a4.sl.lens wq4.lv wq4.len;have n1:=zOR (prg 2 wR1 (frm 1 1 0)) (wq1.sz.mono (by decide)) (by show (wR1.map fA).length<_;decide) wq1.valid;have m1:Sound 20 [pgo 1000009 ⟨((2:Nat):Int),wR1.map fA,fA (frm 1 1 0)⟩] (rwO 1000009 (wR1.map fA)) [] (.tup [slv s1,.int .i64 (fun _=>0)]) (rwO 1000009 (wR1.map fA)) []:=a1.call;have m2:Sound 20 [pgo 1000009 ⟨((2:Nat):Int),wR2.map fA,fA (frm 1 1 0)⟩] (rwO 1000009 (wR2.map fA)) [] (.tup [slv s2,.int .i64 (fun _=>0)]) (rwO 1000009 (wR2.map fA)) []:=a2.call;have m3:Sound 20 [pgo 1000009 ⟨((2:Nat):Int),wR3.map fA,fA (frm 1 1 0)⟩] (rwO 1000009 (wR3.map fA)) [] (.tup [slv s3,.int .i64 (fun _=>0)]) (rwO 1000009 (wR3.map fA)) []:=a3.call;have m4:Sound 20 [pgo 1000009 ⟨((2:Nat):Int),wR4.map fA,fA (frm 1 1 0)⟩] (rwO 1000009 (wR4.map fA)) [] (.tup [slv s4,.int .i64 (fun _=>0)]) (rwO 1000009 (wR4.map fA)) []:=a4.call;have n1':Sound 36 [pgv ⟨((2:Nat):Int),wR1.map fA,fA (frm 1 1 0)⟩] [] [] (.tup [.ptr 10 0,.int .i64 (fun _=>0)]) [] [(10,.box (wNew 8 ((2:Nat):Int) (wR1.map fA) (fA (frm 1 1 0)).ts (fA (frm 1 1 0)).c)),(8,.arr 4 (fun _=>enc ac (wR1.map fA)))]:=n1;have v1:(fA (frm 1 2 (-4))).valid 2=true:=by decide +kernel
 have v2:(fA (frm 1 (-1) 0)).valid 2=true:=by decide +kernel
 have v3:(fA (frm (-1) 0 1)).valid 2=true:=by decide +kernel
 have x1:=zE5 (c0:=1) (c1:=2) (c:=-4) (by decide) (by decide) (by decide);have x2:=zE5 (c0:=1) (c1:=-1) (c:=0) (by decide) (by decide) (by decide);have x3:=zE5 (c0:=-1) (c1:=0) (c:=1) (by decide) (by decide) (by decide);have ka:=oS (c0:=1) (c1:=1) (c:=0) (by decide) (by decide) (by decide);have kb:=oS (c0:=1) (c1:=2) (c:=-4) (by decide) (by decide) (by decide);have kc:=oS (c0:=1) (c1:=0) (c:=0) (by decide) (by decide) (by decide);have kd:=oS (c0:=0) (c1:=1) (c:=0) (by decide) (by decide) (by decide);have ke:=oS (c0:=1) (c1:=-1) (c:=0) (by decide) (by decide) (by decide);have kf:=oS (c0:=-1) (c1:=0) (c:=1) (by decide) (by decide) (by decide);have ko:=s32 2 (by decide) (by decide);have f2:Fits 1 (2:Rat):=⟨by decide,by decide⟩;have f83:Fits 1 (8/3:Rat):=⟨by decide +kernel,by decide +kernel⟩;have kp:=zDM 2 (f2.mono (by decide));have kq:=zDM (8/3) (f83.mono (by decide));have f0:Fits 1 (0:Rat):=⟨by decide,by decide⟩;have s0:=s35 (zS 0) (by have:=(yZ f0).n;omega);rw[xF,show xJ (0:Rat)=0 by decide +kernel] at s0;have kr:=s43 8 3 (by decide) (by decide) (by decide) (by decide) (by decide);rw[show divZ 8 3=(8/3:Rat) by decide +kernel] at kr;rw[show ((2:Int):Rat)=2 from rfl] at ko;obtain⟨a,ha⟩:∃ a,fA (frm 1 1 0)=a:=⟨_,rfl⟩;obtain⟨b,hb⟩:∃ a,fA (frm 1 2 (-4))=a:=⟨_,rfl⟩;obtain⟨c,hc⟩:∃ a,fA (frm 1 0 0)=a:=⟨_,rfl⟩;obtain⟨d,hd⟩:∃ a,fA (frm 0 1 0)=a:=⟨_,rfl⟩;obtain⟨e,he⟩:∃ a,fA (frm 1 (-1) 0)=a:=⟨_,rfl⟩;obtain⟨f,hf⟩:∃ a,fA (frm (-1) 0 1)=a:=⟨_,rfl⟩;have e1:wR1.map fA=[c,d]:=by show [fA _,fA _]=_;rw[hc,hd]
 have e2:wR2.map fA=[c,d]++[b]:=by show [fA _,fA _,fA _]=_;rw[hc,hd,hb];rfl
 have e3:wR3.map fA=[c,d]++[b]++[e]:=by show [fA _,fA _,fA _,fA _]=_;rw[hc,hd,hb,he];rfl
 have e4:wR4.map fA=[c,d]++[b]++[e]++[f]:=by show [fA _,fA _,fA _,fA _,fA _]=_;rw[hc,hd,hb,he,hf];rfl
 have e5:((2:Nat):Int)=2:=rfl;rw[e1,ha,e5] at n1' m1;rw[e2,ha,e5] at m2;rw[e3,ha,e5] at m3;rw[e4,ha,e5] at m4;rw[ha] at ka;rw[hb] at kb v1 x1;rw[hc] at kc;rw[hd] at kd;rw[he] at ke v2 x2;rw[hf] at kf v3 x3;clear n1 a1 a2 a3 a4 ha hb hc hd he hf e1 e2 e3 e4 e5;obtain⟨st1,w1,p1,d1,r1,b1,q1⟩:=s1;obtain⟨st2,w2,p2,d2,r2,b2,q2⟩:=s2;obtain⟨st3,w3,p3,d3,r3,b3,q3⟩:=s3;obtain⟨st4,w4,p4,d4,r4,b4,q4⟩:=s4;dsimp only at t1 t2 t3 t4 z1 z2 z3 l1 l2 l3 l4;subst t1 t2 t3 t4 z1 z2 z3;obtain⟨ots,oc⟩:=a;have g1:=zBZ 2 [c,d] ots oc 0 ⟨false,[],[]⟩ [] [] [] [] 0 0 _ m1 (by dsimp only;omega) (by dsimp only;omega) (by dsimp only;omega) (by dsimp only;omega);have h1:=zEV b 2 [c,d] ots oc true 1 (zS 0) p1 d1 r1 b1 q1 x1 v1 (by simp) (by decide);have g2:=zBZ 2 ([c,d]++[b]) ots oc 1 (zS 0) p1 d1 r1 b1 q1 0 _ m2 (by dsimp only;omega) (by dsimp only;omega) (by dsimp only;omega) (by dsimp only;omega);have h2:=zEV e 2 ([c,d]++[b]) ots oc true 1 (zS 2) p2 d2 r2 b2 q2 x2 v2 (by simp) (by decide);have g3:=zBZ 2 ([c,d]++[b]++[e]) ots oc 1 (zS 2) p2 d2 r2 b2 q2 0 _ m3 (by dsimp only;omega) (by dsimp only;omega) (by dsimp only;omega) (by dsimp only;omega);have h3:=zEV f 2 ([c,d]++[b]++[e]) ots oc true 1 (zS (8/3)) p3 d3 r3 b3 q3 x3 v3 (by simp) (by decide);have g4:=zBZ 2 ([c,d]++[b]++[e]++[f]) ots oc 1 (zS (8/3)) p3 d3 r3 b3 q3 0 _ m4 (by dsimp only;omega) (by dsimp only;omega) (by dsimp only;omega) (by dsimp only;omega);have u5:=zOQ 2 ([c,d]++[b]++[e]++[f]) ots oc true 2 (zS w4) p4 d4 r4 b4 q4 0;clear m1 m2 m3 m4 x1 x2 x3 v1 v2 v3 l1 l2 l3 l4;dsimp only at g1 h1 g2 h2 g3 h3 g4 u5;obtain⟨Z0,hZ0⟩:∃ Z,zS 0=Z:=⟨_,rfl⟩;obtain⟨Z2,hZ2⟩:∃ Z,zS 2=Z:=⟨_,rfl⟩;obtain⟨Z8,hZ8⟩:∃ Z,zS (8/3)=Z:=⟨_,rfl⟩;obtain⟨Z4,hZ4⟩:∃ Z,zS w4=Z:=⟨_,rfl⟩
 try unfold slv at g1 g2 g3 g4
 dsimp only at g1 g2 g3 g4;rw[hZ0] at g1 h1 g2 s0;rw[hZ2] at g2 h2 g3 ko kp;rw[hZ8] at g3 h3 g4 kq kr;rw[hZ4] at g4 u5;clear hZ0 hZ2 hZ8 hZ4;obtain⟨bts,bc⟩:=b;obtain⟨cts,cc⟩:=c;obtain⟨dts,dc⟩:=d;obtain⟨ets,ec⟩:=e;obtain⟨fts,fc⟩:=f;refine sF Tryz.f34 ?_;cbv;refine cA ka ?_;cbv;refine cA kc ?_;cbv;refine cA kd ?_;cbv;refine zOC ?_;cbv;refine yP (fun n=>match nqb n 1000000 with|true=>301|false=>match nqb n 1000001 with|true=>302|false=>match nqb n 31 with|true=>302|false=>match nqb n 10 with|true=>301|false=>match nqb n 8 with|true=>302|false=>n) (.refl _) rfl (by exact⟨⟨lR,zX rfl,lR,lR,lR,lR,trivial⟩,trivial⟩) n1' (by exact trivial) rfl rfl rfl rfl rfl rfl rfl rfl ?_;cbv;refine qE rfl ?_;cbv;refine b6 rfl ?_;cbv;refine yP (fun n=>match nqb n 1000000 with|true=>301|false=>match nqb n 1000001 with|true=>302|false=>match nqb n 31 with|true=>302|false=>match nqb n 10 with|true=>301|false=>match nqb n 8 with|true=>302|false=>n) (.refl _) rfl okA g1 (by exact⟨⟨rfl,rfl⟩,⟨rfl,rfl⟩,trivial⟩) rfl rfl rfl rfl rfl rfl rfl rfl ?_;cbv;refine cA kb ?_;cbv;refine yP (fun n=>match nqb n 1000000 with|true=>301|false=>match nqb n 1000001 with|true=>302|false=>match nqb n 31 with|true=>302|false=>match nqb n 10 with|true=>301|false=>match nqb n 8 with|true=>302|false=>n) (.refl _) rfl okA h1 (by exact⟨⟨rfl,rfl⟩,⟨rfl,rfl⟩,trivial⟩) rfl rfl rfl rfl rfl rfl rfl rfl ?_;cbv;refine yP (fun n=>match nqb n 1000000 with|true=>301|false=>match nqb n 1000001 with|true=>302|false=>match nqb n 31 with|true=>302|false=>match nqb n 10 with|true=>301|false=>match nqb n 8 with|true=>302|false=>n) (.refl _) rfl okA g2 (by exact⟨⟨rfl,rfl⟩,⟨rfl,rfl⟩,trivial⟩) rfl rfl rfl rfl rfl rfl rfl rfl ?_;cbv;refine cA ke ?_;cbv;refine yP (fun n=>match nqb n 1000000 with|true=>301|false=>match nqb n 1000001 with|true=>302|false=>match nqb n 31 with|true=>302|false=>match nqb n 10 with|true=>301|false=>match nqb n 8 with|true=>302|false=>n) (.refl _) rfl okA h2 (by exact⟨⟨rfl,rfl⟩,⟨rfl,rfl⟩,trivial⟩) rfl rfl rfl rfl rfl rfl rfl rfl ?_;cbv;refine yP (fun n=>match nqb n 1000000 with|true=>301|false=>match nqb n 1000001 with|true=>302|false=>match nqb n 31 with|true=>302|false=>match nqb n 10 with|true=>301|false=>match nqb n 8 with|true=>302|false=>n) (.refl _) rfl okA g3 (by exact⟨⟨rfl,rfl⟩,⟨rfl,rfl⟩,trivial⟩) rfl rfl rfl rfl rfl rfl rfl rfl ?_;cbv;refine cA kr ?_;cbv;refine cA kf ?_;cbv;refine yP (fun n=>match nqb n 1000000 with|true=>301|false=>match nqb n 1000001 with|true=>302|false=>match nqb n 31 with|true=>302|false=>match nqb n 10 with|true=>301|false=>match nqb n 8 with|true=>302|false=>n) (.refl _) rfl okA h3 (by exact⟨⟨rfl,rfl⟩,⟨rfl,rfl⟩,trivial⟩) rfl rfl rfl rfl rfl rfl rfl rfl ?_;cbv;refine yP (fun n=>match nqb n 1000000 with|true=>301|false=>match nqb n 1000001 with|true=>302|false=>match nqb n 31 with|true=>302|false=>match nqb n 10 with|true=>301|false=>match nqb n 8 with|true=>302|false=>n) (.refl _) rfl okA g4 (by exact⟨⟨rfl,rfl⟩,⟨rfl,rfl⟩,trivial⟩) rfl rfl rfl rfl rfl rfl rfl rfl ?_;cbv;refine zZ 28 (by cbv) ?_;cbv;refine qE rfl ?_;cbv;refine dA s0 ?_;cbv;refine qE rfl ?_;cbv;refine qE rfl ?_;cbv;refine dA ko ?_;cbv;refine dA kp ?_;cbv;refine qE rfl ?_;cbv;refine qE rfl ?_;cbv;refine cA kq ?_;cbv;refine qE rfl ?_;cbv;refine qE rfl ?_;cbv;refine qE rfl ?_;cbv;refine yP (fun n=>match nqb n 1000000 with|true=>301|false=>match nqb n 1000001 with|true=>302|false=>match nqb n 31 with|true=>302|false=>match nqb n 10 with|true=>301|false=>match nqb n 8 with|true=>302|false=>n) (.refl _) rfl okA u5 (by exact⟨⟨rfl,rfl⟩,⟨rfl,rfl⟩,trivial⟩) rfl rfl rfl rfl rfl rfl rfl rfl ?_;cbv
 (refine rC ?_;cbv)
 exact zI rfl
theorem zNJ {tru:Bool}(h:tru=true):zM 34 [] (.bool (fun _=>tru)):=by rw[h];exact zOY
theorem zNI (P:Prg)(h:P.bk (2^20)):zM 16 [pgv P] (.bool (fun _=>true)):=by
 have hz:=h.sz (m:=2^32) (Nat.le_refl _) (by decide);have cv:=zL1 P hz;have cs:=zNB P hz;have k1:=zM8;have k2:=zND ⟨[],⟨false,[],[]⟩⟩;have k3:=zM9;have k4:=zNC;have k5:=zNA;obtain⟨tru,htru⟩:∃ b,b=true:=⟨_,rfl⟩;have ca:=zNJ htru;obtain⟨b,hb⟩:∃ b,P.valid=b:=⟨_,rfl⟩;rw[hb] at cv cs;clear hb hz h;obtain⟨n,us,ob⟩:=P;obtain⟨ots,oc⟩:=ob;refine sF Tryz.f16 ?_;cbv;refine cA ca ?_;cbv;refine z9 (fun e=>?_) (fun e=>by rw[htru] at e;cases e);cbv;refine yG (fun e1=>?_) (fun e1=>?_)
 ·cbv
  (refine rC ?_;cbv)
  exact zU rfl
 cbv;refine cA cv ?_;cbv;refine z9 (fun e2=>?_) (fun e2=>?_)
 ·cbv
  (refine rC ?_;cbv)
  exact zU rfl
 have cs':=cs e2;cbv;refine cA cs' ?_;cbv;refine qE rfl ?_;cbv;refine rB rfl ?_;cbv;refine cA k1 ?_;cbv;refine qE rfl ?_;cbv;refine cA k2 ?_;cbv;refine qE rfl ?_;cbv;refine cA k3 ?_;cbv;refine qE rfl ?_;cbv;refine cA k4 ?_;cbv;refine zMH rfl ?_;cbv;refine cA k5 ?_;cbv
 (refine rC ?_;cbv)
 exact zI rfl
end Go.Proofs.YtfainocfaddbdaaGreat
