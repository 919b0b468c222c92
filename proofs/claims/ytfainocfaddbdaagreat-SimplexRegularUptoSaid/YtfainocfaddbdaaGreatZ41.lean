/- A part of the proof: SzE, LsA, LsB, SxW, SxY, SxX. -/
import Derived.Test.YtfainocfaddbdaaGreatZ40
import Derived.Test.YtfainocfaddbdaaGreatZ39
set_option linter.all false
namespace Go.Proofs.YtfainocfaddbdaaGreat
open Go
set_option maxRecDepth 100000
set_option maxHeartbeats 4000000
theorem zKQ {vars:Int}:∀ {ts:List (Int×R)} {p:Int},vT vars p ts=true->∀ t,t∈tq ts->0<=t.1/\t.1<vars
 |[],_,_,t,h=>absurd h (by simp[tq])| u::r,p,h,t,ht=>by rw[nV] at h;simp only[Bool.and_eq_true,decide_eq_true_eq] at h;obtain⟨⟨⟨⟨⟨h1,h2⟩,h3⟩,h4⟩,h5⟩,h6⟩:=h;rcases List.mem_cons.1 ht with rfl|ht;{exact⟨h1,h2⟩};{exact zKQ h6 t ht}
theorem zHU {a:A}{n:Int}(h:a.valid n=true):fA a.f=a/\a.f.wf n:=by have h1:=zB7 h;unfold A.valid at h;simp only[Bool.and_eq_true] at h;exact⟨h1.1,h1.2,zKQ h.1⟩
structure PW (v:Nat) (fs:List F) (ob:F) (k n:Nat):Prop where
 lv:v<=4
 len:fs.length<=9
 rows:∀ f,f∈fs->f.fl k n/\f.wf (v:Int)
 obj:ob.fl k n/\ob.wf (v:Int)
 k1:1<=k
 k2:k<=500
 hn:n<2^20
section
variable {v k n:Nat} {fs:List F} {ob:F}
theorem PW.valid (h:PW v fs ob k n):(prg v fs ob).valid=true:=by have:=h.lv;have:=h.len;unfold Prg.valid;show (decide (0<=(v:Int)/\(v:Int)<=1280/\(fs.map fA).length<=4096)&&(fA ob).valid (v:Int)&&(fs.map fA).all (A.valid (v:Int)))=true;rw[decide_eq_true (by rw[List.length_map];omega),h.obj.2.valid,zLU fun f hf=>(h.rows f hf).2];rfl
theorem PW.sz (h:PW v fs ob k n):(prg v fs ob).sz k where
 rows:=⟨by show (fs.map fA).length<_;rw[List.length_map];have:=h.len;omega,fun a ha=>by obtain⟨f,hf,rfl⟩:=List.mem_map.1 ha;exact ((h.rows f hf).1.fit (by have:=h.hn;omega)).fA⟩
 ob:=(h.obj.1.fit (by have:=h.hn;omega)).fA
structure Ans (v:Nat) (fs:List F) (ob:F) (K:Nat) (s:SolR):Prop where
 sl:Slv v fs ob K s
 sem:Sem fs ob s.st s.val
 call:zH 20 [pgv (prg v fs ob)] (.tup [slv s,.int .i64 (fun _=>0)])
theorem PW.solve (h:PW v fs ob k n):∃ s,Ans v fs ob (1953125*k) s:=by
 obtain⟨s,hs⟩:=zO7 (K:=1953125*k) h.lv h.len h.k1 (fun f hf=>(h.rows f hf).1) h.obj.1 (Nat.le_refl _);have hk:1953125*k<=2^30:=by have:=h.k2;omega
 have h1:=h.hn;have h2:=h.lv;have h3:=h.len;exact⟨s,hs,hs.ok.sem (fun f hf=>(h.rows f hf).2) h.obj.2,zDC v 0 fs ob s (h.sz.mono (by have:=h.k2;omega)) h.valid (by omega) (by omega)
  (fun f hf=>⟨by have:=(h.rows f hf).1.len;omega,(h.rows f hf).2.v⟩) (by have:=h.obj.1.len;omega) h.obj.2.v (fun E hE=>(hs.piv E hE).mono hk) (hs.walk.mono hk) hs.some⟩
end
theorem rS {c0 c1 c:Int}(h0:c0.natAbs<=8)(h1:c1.natAbs<=8)(h2:c.natAbs<=8):(frm c0 c1 c).fl 5 2:=by have ht:=zA0 h0 h1;refine⟨fun t h=>?_,(cT h2).mono (by decide),dF _ _⟩;exact zBX (m:=1) (g:=[((0:Int),(c0:Rat)),(1,(c1:Rat))]) (l:=[]) (fun t h=>(ht t h).2) (fun t h=>absurd h (by simp)) t h
theorem lP {f:F}{n:Int}(h:(fA f).valid n=true):f.wf n:=by
 have:=(zHU h).2;have e:(fA f).f=f:=by obtain⟨ts,c⟩:=f;show (⟨tq (tR ts),(zL c).q⟩:F)=⟨ts,c⟩;rw[zFO,yT]
 rwa [e] at this
def exRw:List F:=[frm 1 2 (-4),frm 1 0 0,frm 0 1 0]
theorem zPU:frm 1 2 (-4)=⟨[(0,1),(1,2)],-4⟩/\frm 1 0 0=⟨[(0,1)],0⟩/\frm 0 1 0=⟨[(1,1)],0⟩/\frm 1 1 0=⟨[(0,1),(1,1)],0⟩/\frm (-1) (-1) 1=⟨[(0,-1),(1,-1)],1⟩/\frm (-1) 0 0=⟨[(0,-1)],0⟩:=by refine⟨?_,?_,?_,?_,?_,?_⟩ <;> (unfold frm;congr 1)
theorem at2 {X:Int->Rat}{a b:Int}{p q c:Rat}:(⟨[(a,p),(b,q)],c⟩:F).at X=c+(p*X a+(q*X b+0)):=rfl
theorem at1 {X:Int->Rat}{a:Int}{p c:Rat}:(⟨[(a,p)],c⟩:F).at X=c+(p*X a+0):=rfl
theorem zI4 (X:Int->Rat):(frm 1 2 (-4)).at X=X 0+2*X 1-4/\(frm 1 0 0).at X=X 0/\(frm 0 1 0).at X=X 1/\(frm 1 1 0).at X=X 0+X 1/\(frm (-1) (-1) 1).at X=1-X 0-X 1/\(frm (-1) 0 0).at X=- X 0:=by obtain⟨h1,h2,h3,h4,h5,h6⟩:=zPU;rw[h1,h2,h3,h4,h5,h6,at2,at1,at1,at2,at2,at1];refine⟨?_,?_,?_,?_,?_,?_⟩ <;> grind
theorem pts3 {a b c:F}{X:Int->Rat}:Pts [a,b,c] X↔0<=a.at X/\0<=b.at X/\0<=c.at X:=by unfold Pts;simp
theorem pts4 {a b c d:F}{X:Int->Rat}:Pts [a,b,c,d] X↔0<=a.at X/\0<=b.at X/\0<=c.at X/\0<=d.at X:=by unfold Pts;simp
theorem pts1 {a:F}{X:Int->Rat}:Pts [a] X↔0<=a.at X:=by unfold Pts;simp
theorem zNI {st:Nat}{z:Rat}(h:Sem exRw (frm 1 1 0) st z):st=1/\z=2:=by
 have lo:∀ X,Pts exRw X->2<=(frm 1 1 0).at X:=fun X hX=>by obtain⟨h1,h2,h3,h4,h5,h6⟩:=zI4 X;obtain⟨g1,g2,g3⟩:=pts3.1 hX;grind
 have h0:∃ X:Int->Rat,X 0=0/\X 1=2:=⟨fun i=>if i=1 then 2 else 0,by decide,by decide⟩;obtain⟨X,e0,e1⟩:=h0;have hp:Pts exRw X/\(frm 1 1 0).at X=2:=by obtain⟨h1,h2,h3,h4,h5,h6⟩:=zI4 X;refine⟨pts3.2 ⟨?_,?_,?_⟩,?_⟩ <;> grind
 rcases h.one with e|e|e;{obtain⟨⟨Y,y1,y2⟩,y3⟩:=h.opt e;have h1:=lo Y y1;have h2:=y3 X hp.1;exact⟨e,by grind⟩};{exact absurd hp.1 ((h.inf e).2 X)};{obtain⟨Y,y1,y2⟩:=(h.unb e).2 2;have h1:=lo Y y1;exact absurd y2 (by grind)}
theorem zNH {st:Nat}{z:Rat}(h:Sem (exRw++[frm (-1) (-1) 1]) (frm 1 1 0) st z):st=2:=by
 have no:∀ X,¬Pts (exRw++[frm (-1) (-1) 1]) X:=fun X hX=>by obtain⟨h1,h2,h3,h4,h5,h6⟩:=zI4 X;obtain⟨g1,g2,g3,g4⟩:=pts4.1 hX;grind
 rcases h.one with e|e|e;{obtain⟨⟨Y,y1,y2⟩,y3⟩:=h.opt e;exact absurd y1 (no Y)};{exact e};{obtain⟨Y,y1,y2⟩:=(h.unb e).2 2;exact absurd y1 (no Y)}
theorem zNG {st:Nat}{z:Rat}(h:Sem [frm 1 0 0] (frm (-1) 0 0) st z):st=3:=by
 have pt:∀ c:Rat,0<=c->Pts [frm 1 0 0] (fun _=>c)/\(frm (-1) 0 0).at (fun _=>c)=-c:=fun c hc=>by obtain⟨h1,h2,h3,h4,h5,h6⟩:=zI4 (fun _=>c);exact⟨pts1.2 (by grind),h6⟩
 rcases h.one with e|e|e;{obtain⟨⟨Y,y1,y2⟩,y3⟩:=h.opt e;by_cases hz:0<=-z;{obtain⟨p1,p2⟩:=pt (-z+1) (by grind);have:=y3 _ p1;grind};{obtain⟨p1,p2⟩:=pt 0 (by decide);have:=y3 _ p1;grind}};{exact absurd (pt 0 (by decide)).1 ((h.inf e).2 _)};{exact e}
theorem ex_pw:PW 2 exRw (frm 1 1 0) 5 2:=⟨by decide,by decide,fun f hf=>by
 have:f=frm 1 2 (-4)\/f=frm 1 0 0\/f=frm 0 1 0:=by simpa[exRw] using hf
 rcases this with rfl|rfl|rfl;{exact⟨rS (by decide) (by decide) (by decide),lP (by decide +kernel)⟩};{exact⟨rS (by decide) (by decide) (by decide),lP (by decide +kernel)⟩}
 ·exact⟨rS (by decide) (by decide) (by decide),lP (by decide +kernel)⟩,⟨rS (by decide) (by decide) (by decide),lP (by decide +kernel)⟩,by decide,by decide,by decide⟩
theorem ex_pw2:PW 2 (exRw++[frm (-1) (-1) 1]) (frm 1 1 0) 5 2:=⟨by decide,by decide,fun f hf=>by
 rcases List.mem_append.1 hf with hf|hf;{exact ex_pw.rows f hf}
 ·(have:f=frm (-1) (-1) 1:=by simpa using hf);subst this
  exact⟨rS (by decide) (by decide) (by decide),lP (by decide +kernel)⟩,ex_pw.obj,by decide,by decide,by decide⟩
theorem ex_pw3:PW 1 [frm 1 0 0] (frm (-1) 0 0) 5 2:=⟨by decide,by decide,fun f hf=>by
 have:f=frm 1 0 0:=by simpa using hf
 subst this;exact⟨rS (by decide) (by decide) (by decide),lP (by decide +kernel)⟩,⟨rS (by decide) (by decide) (by decide),lP (by decide +kernel)⟩,by decide,by decide,by decide⟩
theorem zQT:zH 18 [] (.bool (fun _=>true)):=by
 obtain⟨s1,a1⟩:=ex_pw.solve;obtain⟨s2,a2⟩:=ex_pw2.solve;obtain⟨s3,a3⟩:=ex_pw3.solve;obtain⟨t1,z1⟩:=zNI a1.sem;have t2:=zNH a2.sem;have t3:=zNG a3.sem;have k1:=a1.call;have k2:=a2.call;have k3:=a3.call;have kf:=iB (c0:=-1) (c1:=-1) (c:=1) (by decide) (by decide) (by decide);have kg:=iB (c0:=-1) (c1:=0) (c:=0) (by decide) (by decide) (by decide);have kh:=iB (c0:=1) (c1:=0) (c:=0) (by decide) (by decide) (by decide);have ko:=s32 2 (by decide) (by decide);have f2:Fits 1 (2:Rat):=⟨by decide,by decide⟩;have kc:=oE 2 (f2.mono (by decide));rw[show ((2:Int):Rat)=2 from rfl] at ko;obtain⟨a,ha⟩:∃ a,fA (frm 1 1 0)=a:=⟨_,rfl⟩;obtain⟨b,hb⟩:∃ a,fA (frm 1 2 (-4))=a:=⟨_,rfl⟩;obtain⟨c,hc⟩:∃ a,fA (frm 1 0 0)=a:=⟨_,rfl⟩;obtain⟨d,hd⟩:∃ a,fA (frm 0 1 0)=a:=⟨_,rfl⟩;obtain⟨e,he⟩:∃ a,fA (frm (-1) (-1) 1)=a:=⟨_,rfl⟩;obtain⟨f,hf⟩:∃ a,fA (frm (-1) 0 0)=a:=⟨_,rfl⟩;have ce:=zQS a b c d ha hb hc hd;have e1:exRw.map fA=[b,c,d]:=by show [fA _,fA _,fA _]=_;rw[hb,hc,hd]
 have e2:(exRw++[frm (-1) (-1) 1]).map fA=[b,c,d,e]:=by rw[List.map_append,e1];show [b,c,d,fA _]=_;rw[he]
 have e3:[frm 1 0 0].map fA=[c]:=by show [fA _]=_;rw[hc]
 have e4:((2:Nat):Int)=2:=rfl;have e5:((1:Nat):Int)=1:=rfl;have k1':zH 20 [.agg [.int .i64 (fun _=>((2:Nat):Int)),alv (exRw.map fA),tsv (fA (frm 1 1 0)).ts,.bool (fun _=>(fA (frm 1 1 0)).c.neg),nat (fA (frm 1 1 0)).c.num,nat (fA (frm 1 1 0)).c.den]] (.tup [slv s1,.int .i64 (fun _=>0)]):=k1;have k2':zH 20 [.agg [.int .i64 (fun _=>((2:Nat):Int)),alv ((exRw++[frm (-1) (-1) 1]).map fA),tsv (fA (frm 1 1 0)).ts,.bool (fun _=>(fA (frm 1 1 0)).c.neg),nat (fA (frm 1 1 0)).c.num,nat (fA (frm 1 1 0)).c.den]] (.tup [slv s2,.int .i64 (fun _=>0)]):=k2;have k3':zH 20 [.agg [.int .i64 (fun _=>((1:Nat):Int)),alv ([frm 1 0 0].map fA),tsv (fA (frm (-1) 0 0)).ts,.bool (fun _=>(fA (frm (-1) 0 0)).c.neg),nat (fA (frm (-1) 0 0)).c.num,nat (fA (frm (-1) 0 0)).c.den]] (.tup [slv s3,.int .i64 (fun _=>0)]):=k3;rw[e1,ha,e4] at k1';rw[e2,ha,e4] at k2';rw[e3,hf,e5] at k3';clear e1 e2 e3 e4 e5;rw[he] at kf;rw[hf] at kg;rw[hc] at kh;clear k1 k2 k3 a1 a2 a3 ha hb hc hd he hf;obtain⟨st1,v1,p1,d1,r1,b1,n1⟩:=s1;obtain⟨st2,v2,p2,d2,r2,b2,n2⟩:=s2;obtain⟨st3,v3,p3,d3,r3,b3,n3⟩:=s3;dsimp only at t1 t2 t3 z1;subst t1 t2 t3 z1;unfold slv at k1' k2' k3';dsimp only at k1' k2' k3';obtain⟨Z,hZ⟩:∃ Z,zL 2=Z:=⟨_,rfl⟩;obtain⟨Z2,hZ2⟩:∃ Z,zL v2=Z:=⟨_,rfl⟩;obtain⟨Z3,hZ3⟩:∃ Z,zL v3=Z:=⟨_,rfl⟩;have ko':zH 26 [.int .i64 (fun _=>2)] (rv Z):=by rw[<-hZ];exact ko
 rw[hZ] at k1' kc;rw[hZ2] at k2';rw[hZ3] at k3';clear ko hZ hZ2 hZ3;obtain⟨ats,ac0⟩:=a;obtain⟨bts,bc⟩:=b;obtain⟨cts,cc⟩:=c;obtain⟨dts,dc⟩:=d;obtain⟨ets,ec⟩:=e;obtain⟨fts,fc⟩:=f;refine sF Tryz.f18 ?_;cbv;refine y0 (fun _=>201) (.refl _) rfl (by exact trivial) ce (by exact trivial) rfl rfl rfl rfl rfl rfl rfl rfl ?_;cbv;refine jH (.frz 201 rfl rfl (by cbv;repeat' first|exact trivial|exact yM (by simp[zN])|apply And.intro) (by cbv;repeat' first|exact trivial|exact yM (by simp[zN])|apply And.intro)) rfl (by exact⟨⟨lR,zX rfl,lR,lR,lR,lR,trivial⟩,trivial⟩) k1' rfl ?_;cbv;refine y0 (fun _=>202) (.refl _) rfl (by exact trivial) ce (by exact trivial) rfl rfl rfl rfl rfl rfl rfl rfl ?_;cbv;refine zZ 4 (by cbv) ?_;cbv;refine dA kf ?_;cbv;refine v7 zKS rfl rfl rfl (by rfl) rfl ⟨by simp[y8,x4]⟩ (yR (by simp[y8,zN] <;> omega) (by simp[y8,zN])) rfl ?_;cbv;refine jH (.frz 18 rfl rfl (by cbv;repeat' first|exact trivial|exact yM (by simp[zN])|apply And.intro) (by cbv;repeat' first|exact trivial|exact yM (by simp[zN])|apply And.intro)) rfl (by exact⟨⟨lR,zX rfl,lR,lR,lR,lR,trivial⟩,trivial⟩) k2' rfl ?_;cbv;refine cA kg ?_;cbv;refine cA kh ?_;cbv;refine zQA ?_;cbv;refine wD rfl (by exact⟨⟨lR,zX rfl,lR,lR,lR,lR,trivial⟩,trivial⟩) k3' rfl ?_;cbv;refine zZ 33 (by cbv) ?_;cbv;refine v6 rfl ?_;cbv;refine v6 rfl ?_;cbv;refine dA ko' ?_;cbv;refine dA kc ?_;cbv;refine v6 rfl ?_;cbv;refine v6 rfl ?_;cbv;refine v6 rfl ?_;cbv;refine v6 rfl ?_;cbv
 (refine rC ?_;cbv)
 exact zK rfl
theorem zPG {tru:Bool}(h:tru=true):zH 18 [] (.bool (fun _=>tru)):=by rw[h];exact zQT
theorem SolFit.mono {K L:Nat}{s:SolR}(h:SolFit K s)(hm:K<=L):SolFit L s:=⟨h.val.mono hm,h.pt.mono hm,h.du.mono hm,h.ry.mono (by omega)⟩
structure Boxy (v:Nat) (D:Dic):Prop where
 vars:∀ y,(y∈D.bs\/y∈D.nb)↔y<v+2*v
 s0:∀ X,D.Sat X->∀ t,t<v->X (v+2*t)=X t
 s1:∀ X,D.Sat X->∀ t,t<v->X (v+(2*t+1))=(((t+1:Nat):Int):Rat)-X t
 ex:∀ x:Nat->Rat,∃ X,D.Sat X/\∀ t,t<v->X t=x t
section
variable {v:Nat} {D E:Dic}
theorem Boxy.same (h:Boxy v D)(hs:Same E D):Boxy v E where
 vars y:=(hs.vars y).trans (h.vars y)
 s0 X hX:=h.s0 X ((hs.sat X).1 hX)
 s1 X hX:=h.s1 X ((hs.sat X).1 hX)
 ex x:=by obtain⟨X,h1,h2⟩:=h.ex x;exact⟨X,(hs.sat X).2 h1,h2⟩
theorem Boxy.free (h:Boxy v E)(hw:E.wf)(h0:E.rel0 v E.nb.length){t:Nat}(ht:t<v):t∉E.nb:=fun hin=>by obtain⟨e,he⟩:=xL hin;have hel:=yK he;have heg:E.nb.getD e 0=t:=getD_some he;have P1:=Dic.bas_sat hw e 1;have P0:=Dic.bas_sat hw e 0;have n1:=Dic.bas_nb hw (k:=1) hel hel;have n0:=Dic.bas_nb hw (k:=0) hel hel;rw[heg,if_pos rfl] at n1 n0;have a1:=h.s0 _ P1 t ht;have a0:=h.s0 _ P0 t ht;rw[n1] at a1;rw[n0] at a0;have hv:=(h.vars (v+2*t)).2 (by omega);rcases hv with hv|hv;{obtain⟨i,hi⟩:=xL hv;have hil:=yK hi;have b1:=Dic.bas_bs hw (k:=1) hel hil;have b0:=Dic.bas_bs hw (k:=0) hel hil;rw[getD_some hi] at b1 b0;rw[h0 e hel hel (by rw[heg];exact ht) i hil (by rw[getD_some hi];omega)] at b1 b0;rw[a1] at b1;rw[a0] at b0;rw[Rat.zero_mul] at b1 b0;rw[<-b0] at b1;exact absurd b1 (by decide)};{obtain⟨j,hj⟩:=xL hv;have hjl:=yK hj;have b1:=Dic.bas_nb hw (k:=1) hel hjl;rw[getD_some hj,a1] at b1;split at b1;{rename_i hje;rw[hje,he] at hj;have:=Option.some.inj hj;omega};{exact absurd b1 (by decide)}}
theorem Boxy.both (h:Boxy v E)(hw:E.wf){t:Nat}(ht:t<v)(h1:v+2*t∈E.nb)(h2:v+(2*t+1)∈E.nb):False:=by have hX:=Dic.ext_sat hw fun _=>(((t+1:Nat):Int):Rat);have a0:=h.s0 _ hX t ht;have a1:=h.s1 _ hX t ht;rw[Dic.ext_nb hw _ h1] at a0;rw[Dic.ext_nb hw _ h2,<-a0,Rat.sub_self] at a1;have:(((t+1:Nat):Int):Rat)=((0:Int):Rat):=a1;have:=Rat.intCast_inj.1 this;omega
theorem Boxy.one (h:Boxy v E)(hw:E.wf)(h0:E.rel0 v E.nb.length){t:Nat}(ht:t<v)(h1:v+2*t∉E.nb)(h2:v+(2*t+1)∉E.nb):False:=by
 obtain⟨X,hX,x1⟩:=h.ex fun _=>0;obtain⟨Y,hY,y1⟩:=h.ex fun s=>if s=t then 1 else 0
 have key:∀ y,y∈E.nb->X y=Y y:=fun y hy=>by
  (have hlt:=(h.vars y).1 (.inr hy);have hv:v<=y:=Nat.not_lt.1 fun hl=>h.free hw h0 hl hy;obtain⟨s,hs⟩:∃ s,y=v+2*s\/y=v+(2*s+1):=⟨(y-v)/2,by omega⟩;have hst:s≠t:=fun e=>by subst e;rcases hs with rfl|rfl <;> contradiction);have hsv:s<v:=by omega
  have e1:=x1 s hsv;have e2:=y1 s hsv;rw[if_neg hst] at e2;rcases hs with rfl|rfl;{rw[h.s0 X hX s hsv,h.s0 Y hY s hsv,e1,e2]};{rw[h.s1 X hX s hsv,h.s1 Y hY s hsv,e1,e2]}
 have:=Dic.uniq' hw hX hY key ((h.vars t).2 (by omega));rw[x1 t ht,y1 t ht,if_pos rfl] at this;exact absurd this (by decide)
theorem Boxy.feas (h:Boxy v E)(hw:E.wf)(h0:E.rel0 v E.nb.length):E.feas (frV v):=fun j hj hfr=>by
 have hv:v<=E.bs.getD j 0:=by simpa[frV] using hfr
 have hX:=Dic.ext_sat hw fun _=>(0:Rat);have hc:=Dic.zero_bs hw (y:=E.ext fun _=>(0:Rat)) (fun y hy=>Dic.ext_nb hw _ hy) (yL (d:=0) hj) hX;rw[<-hc];have hm:=yN (d:=0) hj;have hlt:=(h.vars _).1 (.inl hm);generalize E.bs.getD j 0=y at *
 obtain⟨s,hs⟩:∃ s,y=v+2*s\/y=v+(2*s+1):=⟨(y-v)/2,by omega⟩;have hsv:s<v:=by omega
 have hpos:(0:Rat)<=(((s+1:Nat):Int):Rat):=Rat.intCast_nonneg.2 (Int.natCast_nonneg _);have e0:=h.s0 _ hX s hsv;have e1:=h.s1 _ hX s hsv;rcases hs with rfl|rfl;{by_cases h2:v+(2*s+1)∈E.nb;{rw[Dic.ext_nb hw _ h2] at e1;rw[e0];grind};{exact absurd (h.one hw h0 hsv (fun q=>hw.ne hm q) h2) id}};{by_cases h2:v+2*s∈E.nb;{rw[Dic.ext_nb hw _ h2] at e0;rw[e1,<-e0];grind};{exact absurd (h.one hw h0 hsv h2 fun q=>hw.ne hm q) id}}
end
theorem Boxy.few {v:Nat}{z:(Nat->Rat)->Rat}{D:Nat->Dic}{l:Nat->List Rat}{r e:Nat->Nat}{k:Nat}(h:BRun (frV v) z D l r e k)(hb:Boxy v (D 0))(h0:(D 0).rel0 v v)(hn:(D 0).nb.length=v):k+1<=2^v:=by
 have hnl:∀ i,i<=k->(D i).nb.length=v:=by
  intro i;induction i with
  |zero=>exact fun _=>hn| succ i ih=>intro hi;rw[(h.step i (by omega)).2,Dic.piv_nl];exact ih (by omega)
 have hbx:∀ i,i<=k->Boxy v (D i):=fun i hi=>hb.same ⟨fun X=>h.sat i hi,fun y=>h.vars i hi⟩;have hr0:∀ i,i<=k->(D i).rel0 v (D i).nb.length:=fun i hi=>by rw[hnl i hi];exact BRun.rel0 h h0 i hi
 refine zHB (f:=fun i=>nM (fun t=>decide (v+2*t∈(D i).nb)) v) (fun i _=>aN _ _) fun i j hij hj he=>?_;have hp:=h.part (a:=i) (n:=j-i) (by omega);refine hp.no_cycle (by omega) fun y=>?_;show y∈(D (i+0)).nb↔y∈(D (i+(j-i))).nb;rw[Nat.add_zero,show i+(j-i)=j by omega];have hi:i<=k:=by omega
 have hj':j<=k:=by omega
 have key:∀ t,t<v->(v+2*t∈(D i).nb↔v+2*t∈(D j).nb):=fun t ht=>by have:=cL he t ht;exact decide_eq_decide.1 this
 have odd:∀ {a},a<=k->∀ t,t<v->(v+(2*t+1)∈(D a).nb↔¬v+2*t∈(D a).nb):=fun ha t ht =>
  ⟨fun h1 h2=>(hbx _ ha).both (h.wf _ ha) ht h2 h1,fun h1=>Classical.byContradiction fun h2=>(hbx _ ha).one (h.wf _ ha) (hr0 _ ha) ht h1 h2⟩
 by_cases hlt:y<v+2*v
 ·by_cases hyv:y<v;{exact⟨fun q=>absurd q ((hbx i hi).free (h.wf i hi) (hr0 i hi) hyv),fun q=>absurd q ((hbx j hj').free (h.wf j hj') (hr0 j hj') hyv)⟩}
  ·(obtain⟨s,hs⟩:∃ s,y=v+2*s\/y=v+(2*s+1):=⟨(y-v)/2,by omega⟩;have hsv:s<v:=by omega);rcases hs with rfl|rfl
   {exact key s hsv};{rw[odd hi s hsv,odd hj' s hsv,key s hsv]}
 {exact⟨fun q=>absurd (((hbx i hi).vars y).1 (.inr q)) hlt,fun q=>absurd (((hbx j hj').vars y).1 (.inr q)) hlt⟩}
theorem zE8 {v:Nat}{z:(Nat->Rat)->Rat}{ln:Dic->List Rat}{D0:Dic}{p0 B:Nat}(hw:D0.wf)(hfe:D0.feas (frV v))(hz:∀ F,Pvs D0 F->∀ X,F.Sat X->z X=dot X F.nb (ln F)) (hB:∀ Ds ls rs es n,BRun (frV v) z Ds ls rs es n->Ds 0=D0->n+1<=B) (hp:p0+B<=65537):MiniOk v z ln D0 p0 (wR v ln (65537-p0) D0 p0)/\(wR v ln (65537-p0) D0 p0).2.2.2=true/\(wR v ln (65537-p0) D0 p0).1.feas (frV v)/\(wR v ln (65537-p0) D0 p0).2.1+1<=p0+B:=by
 have hm:=i4 (p0:=p0) hw hz (65537-p0) D0 p0 0 rfl .refl ⟨_,_,_,_,BRun.zero hw hfe (fun X hX=>hz D0 .refl X hX),rfl,rfl,rfl⟩ rfl;generalize wR v ln (65537-p0) D0 p0=R at *
 obtain⟨n,⟨Ds,ls,rs,es,hR,e0,en,el⟩,hn⟩:=hm.run;have hfew:=hB Ds ls rs es n hR e0;refine⟨hm,?_,fun j hj hf=>?_,by omega⟩
 ·cases hb:R.2.2.2 with
  |true=>rfl| false=>have:=hm.no hb;omega
 {rw[<-en] at hj hf ⊢;exact hR.feas n (Nat.le_refl _) j hj hf}
def Tri (v t y:Nat):Prop:=y=t\/y=v+2*t\/y=v+(2*t+1)
theorem zCL {v y:Nat}(h:y<v+2*v):∃ t,t<v/\Tri v t y:=by by_cases h1:y<v;{exact⟨y,h1,.inl rfl⟩};{exact⟨(y-v)/2,by omega,.inr (by omega)⟩}
section
variable {v:Nat} {E:Dic}
theorem Boxy.dif (h:Boxy v E){X Y:Nat->Rat}(hX:E.Sat X)(hY:E.Sat Y){t y:Nat}(ht:t<v)(hy:Tri v t y):Y y-X y=Y t-X t\/Y y-X y=-(Y t-X t):=by rcases hy with rfl|rfl|rfl;{exact .inl rfl};{rw[h.s0 X hX t ht,h.s0 Y hY t ht];exact .inl rfl};{rw[h.s1 X hX t ht,h.s1 Y hY t ht];exact .inr (by grind)}
theorem Boxy.zer (h:Boxy v E){X:Nat->Rat}(hX:E.Sat X){t y:Nat}(ht:t<v)(hy:Tri v t y)(h0:X y=0\/X y=(((t+1:Nat):Int):Rat)):X t=0\/X t=(((t+1:Nat):Int):Rat):=by rcases hy with rfl|rfl|rfl;{exact h0};{rw[h.s0 X hX t ht] at h0;exact h0};{rw[h.s1 X hX t ht] at h0;rcases h0 with h0|h0;{exact .inr (by grind)};{exact .inl (by grind)}}
theorem Boxy.val (h:Boxy v E){X:Nat->Rat}(hX:E.Sat X){t y:Nat}(ht:t<v)(hy:Tri v t y)(h0:X t=0\/X t=(((t+1:Nat):Int):Rat)):X y=0\/X y=(((t+1:Nat):Int):Rat):=by rcases hy with rfl|rfl|rfl;{exact h0};{rw[h.s0 X hX t ht];exact h0};{rw[h.s1 X hX t ht];rcases h0 with h0|h0;{exact .inr (by grind)};{exact .inl (by grind)}}
theorem Boxy.some (h:Boxy v E)(hw:E.wf){t:Nat}(ht:t<v):∃ y,y∈E.nb/\Tri v t y:=by
 refine Classical.byContradiction fun hno=>?_;obtain⟨X,hX,x1⟩:=h.ex fun _=>0;obtain⟨Y,hY,y1⟩:=h.ex fun s=>if s=t then 1 else 0
 have key:∀ y,y∈E.nb->X y=Y y:=fun y hy=>by obtain⟨s,hs,hsy⟩:=zCL ((h.vars y).1 (.inr hy));have hst:s≠t:=fun e=>hno ⟨y,hy,by rw[<-e];exact hsy⟩;have e1:=x1 s hs;have e2:=y1 s hs;rw[if_neg hst] at e2;rcases h.dif hX hY hs hsy with e|e <;> · rw[e1,e2] at e;grind
 have:=Dic.uniq' hw hX hY key ((h.vars t).2 (by omega));rw[x1 t ht,y1 t ht,if_pos rfl] at this;exact absurd this (by decide)
theorem Boxy.q0 (h:Boxy v E)(hw:E.wf){t:Nat}(ht:t<v):E.ext (fun _=>0) t=0\/E.ext (fun _=>0) t=(((t+1:Nat):Int):Rat):=by obtain⟨z,hz,hzt⟩:=h.some hw ht;exact h.zer (Dic.ext_sat hw _) ht hzt (.inl (Dic.ext_nb hw _ hz))
theorem Boxy.col (h:Boxy v E)(hw:E.wf){e:Nat}(he:e<E.nb.length):∃ t0,t0<v/\(E.bas e 1 t0-E.bas e 0 t0=1\/E.bas e 1 t0-E.bas e 0 t0=-1)/\∀ t,t<v->t≠t0->E.bas e 1 t=E.bas e 0 t:=by
 have P1:=Dic.bas_sat hw e 1;have P0:=Dic.bas_sat hw e 0;have n1:=Dic.bas_nb hw (k:=1) he he;have n0:=Dic.bas_nb hw (k:=0) he he;rw[if_pos rfl] at n1 n0;have hm:=yN (d:=0) he;obtain⟨t0,h1,h2⟩:=zCL ((h.vars _).1 (.inr hm));have main:∀ {t z j:Nat},t<v->E.nb[j]?=.some z->Tri v t z->j≠e->E.bas e 1 t=E.bas e 0 t:=fun {t z j} ht hj hz hje=>by have b1:=Dic.bas_nb hw (k:=1) he (yK hj);have b0:=Dic.bas_nb hw (k:=0) he (yK hj);rw[if_neg hje,getD_some hj] at b1 b0;rcases h.dif P0 P1 ht hz with q|q <;> · rw[b1,b0] at q;grind
 refine⟨t0,h1,?_,fun t ht hne=>?_⟩;{rcases h.dif P0 P1 h1 h2 with q|q;{rw[n1,n0] at q;exact .inl (by grind)};{rw[n1,n0] at q;exact .inr (by grind)}};{obtain⟨z,hz,hzt⟩:=h.some hw ht;obtain⟨j,hj⟩:=xL hz;refine main ht hj hzt fun hje=>hne ?_;rw[hje] at hj;rw[getD_some hj] at h2;unfold Tri at h2 hzt;omega}
theorem Boxy.at (h:Boxy v E)(hw:E.wf){i e:Nat}(hi:i<E.bs.length)(he:e<E.nb.length):E.at i e=0\/E.at i e=1\/E.at i e=-1:=by
 have b1:=Dic.bas_bs hw (k:=1) he hi;have b0:=Dic.bas_bs hw (k:=0) he hi;have hd:E.at i e=E.bas e 1 (E.bs.getD i 0)-E.bas e 0 (E.bs.getD i 0):=by rw[b1,b0];grind
 rw[hd];obtain⟨t,ht,hty⟩:=zCL ((h.vars _).1 (.inl (yN (d:=0) hi)));obtain⟨t0,h1,h2,h3⟩:=h.col hw he;by_cases e1:t=t0;{rw[e1] at hty;rcases h.dif (Dic.bas_sat hw e 0) (Dic.bas_sat hw e 1) h1 hty with q|q <;> rcases h2 with w|w <;> · rw[q,w];grind};{have w:=h3 t ht e1;rcases h.dif (Dic.bas_sat hw e 0) (Dic.bas_sat hw e 1) ht hty with q|q <;> · rw[q,w];grind}
theorem Boxy.cst (h:Boxy v E)(hw:E.wf){i:Nat}(hi:i<E.bs.length):∃ t,t<v/\(E.cst i=0\/E.cst i=(((t+1:Nat):Int):Rat)):=by have hX:=Dic.ext_sat hw fun _=>(0:Rat);rw[<-Dic.zero_bs hw (y:=E.ext fun _=>(0:Rat)) (fun y hy=>Dic.ext_nb hw _ hy) (yL (d:=0) hi) hX];obtain⟨t,ht,hty⟩:=zCL ((h.vars _).1 (.inl (yN (d:=0) hi)));exact⟨t,ht,h.val hX ht hty (h.q0 hw ht)⟩
def bN (c:Nat->Int) (X:Nat->Rat):Nat->Rat
 |0=>0| t+1=>bN c X t+(c t:Rat)*X t
theorem lV {c:Nat->Int}{X Y:Nat->Rat}{t0:Nat}:∀ {n:Nat},(∀ t,t<n->t≠t0->Y t=X t)->bN c Y n-bN c X n=if t0<n then (c t0:Rat)*(Y t0-X t0) else 0
 |0,_=>by rw[if_neg (by omega)];show (0:Rat)-0=0;grind| n+1,h=>by have ih:=lV (c:=c) (n:=n) (fun t ht=>h t (by omega));show bN c Y n+(c n:Rat)*Y n-(bN c X n+(c n:Rat)*X n)=_;by_cases hn:n=t0;{subst hn;rw[if_neg (by omega)] at ih;rw[if_pos (by omega)];grind};{rw[h n (by omega) hn];by_cases h2:t0<n;{rw[if_pos h2] at ih;rw[if_pos (by omega),<-ih];grind};{rw[if_neg h2] at ih;rw[if_neg (by omega),<-ih];grind}}
theorem zC4 {c:Nat->Int}{X:Nat->Rat}(hc:∀ t,(c t).natAbs<=2):∀ {n:Nat},n<=12->(∀ t,t<n->X t=0\/X t=(((t+1:Nat):Int):Rat))->∃ z:Int,bN c X n=(z:Rat)/\z.natAbs<=24*n
 |0,_,_=>⟨0,rfl,by decide⟩| n+1,hn,h=>by
  obtain⟨z,h1,h2⟩:=zC4 hc (n:=n) (by omega) (fun t ht=>h t (by omega));have h3:=hc n;rcases h n (by omega) with e|e;{refine⟨z,?_,by omega⟩;show bN c X n+(c n:Rat)*X n=_;rw[h1,e];grind}
  ·refine⟨z+c n*((n+1:Nat):Int),?_,?_⟩;{show bN c X n+(c n:Rat)*X n=_;rw[h1,e,<-Rat.intCast_mul,<-Rat.intCast_add]}
   ·(have h4:(c n*((n+1:Nat):Int)).natAbs<=2*12:=by rw[Int.natAbs_mul];exact Nat.mul_le_mul h3 (by omega));omega
theorem eL {z:Int}(h:z.natAbs<=400):Fits 1 (z:Rat):=aJ (Nat.lt_of_le_of_lt h (by decide)) (Nat.le_refl 1)
theorem Boxy.fit (h:Boxy v E)(hw:E.wf){c:Nat->Int}(hc:∀ t,(c t).natAbs<=2)(hv:v<=12)(hval:∀ X,E.Sat X->E.val X=bN c X v):E.fit 1:=by
 refine⟨fun l hl=>?_,?_⟩
 ·(obtain⟨i,hi⟩:=xL hl;have hil:i<E.bs.length:=by rw[<-hw.len];exact yK hi);have hll:=hw.row i l hi
  (intro x hx;obtain⟨j,hj⟩:=xL hx;have hjl:=yK hj;have hxe:x=E.at i j:=by unfold Dic.at;rw[getD_some hi,getD_some hj]);by_cases hjn:j<E.nb.length
  {rw[hxe];rcases h.at hw hil hjn with q|q|q;{rw[q];exact y5 (Nat.le_refl 1)};{rw[q];exact fits_one};{rw[q];exact fits_neg1}}
  ·(have:j=E.nb.length:=by omega);have hxc:x=E.cst i:=by rw[hxe,this];rfl
   obtain⟨t,ht,q|q⟩:=h.cst hw hil;{rw[hxc,q];exact y5 (Nat.le_refl 1)};{rw[hxc,q];exact eL (by omega)}
 ·intro x hx;obtain⟨j,hj⟩:=xL hx;have hjl:=yK hj;have hol:=hw.ob;by_cases hjn:j<E.nb.length
  ·(have P1:=Dic.bas_sat hw j 1;have P0:=Dic.bas_sat hw j 0;have d:∀ k:Rat,E.val (E.bas j k)=E.ob.getD j 0*k+E.ob.getD E.nb.length 0:=fun k=>by have:=dI (X:=E.bas j k) (nb:=E.nb) (l:=E.ob) (e:=j) hw.nb hjn (fun i hi hne=>by rw[Dic.bas_nb hw hjn hi,if_neg hne]);rw[Dic.bas_nb hw hjn hjn,if_pos rfl] at this;exact this);have e1:=d 1;have e0:=d 0;rw[hval _ P1] at e1;rw[hval _ P0] at e0;obtain⟨t0,h1,h2,h3⟩:=h.col hw hjn;have hs:=lV (c:=c) (n:=v) (X:=E.bas j 0) (Y:=E.bas j 1) (t0:=t0) h3;rw[if_pos h1,e1,e0] at hs;rw[getD_some hj] at hs;have hct:=hc t0;rcases h2 with q|q
   ·(have hx:x=((c t0:Int):Rat):=by rw[q] at hs;grind);rw[hx];exact eL (by omega)
   ·(have hx:x=((-(c t0):Int):Rat):=by rw[q] at hs;rw[Rat.intCast_neg];grind);rw[hx];exact eL (by omega)
  ·(have hjn:j=E.nb.length:=by omega);have hX:=Dic.ext_sat hw fun _=>(0:Rat)
   have h0:E.val (E.ext fun _=>0)=E.ob.getD E.nb.length 0:=k9 fun y hy=>Dic.ext_nb hw _ hy;rw[hval _ hX,<-hjn,getD_some hj] at h0;obtain⟨z,h1,h2⟩:=zC4 (X:=E.ext fun _=>0) hc hv (fun t ht=>h.q0 hw ht);rw[<-h0,h1];exact eL (by omega)
end
theorem rE {v:Nat}{rows:List (List Rat)}{ob:List Rat}{y:Nat}:(y∈(zY v rows ob).bs\/y∈(zY v rows ob).nb)↔y<v+rows.length:=by constructor;{rintro (q|q);{obtain⟨k,hk,rfl⟩:=List.mem_map.1 q;have:=List.mem_range.1 hk;omega};{have:=List.mem_range.1 q;omega}};{intro h;by_cases hy:y<v;{exact .inr (List.mem_range.2 hy)};{exact .inl (List.mem_map.2 ⟨y-v,List.mem_range.2 (by omega),by show v+(y-v)=y;omega⟩)}}
section
variable {v:Nat} {rows:List (List Rat)} {ob:List Rat}
structure BoxRel (v:Nat) (D0 D1:Dic) (p1:Nat):Prop where
 pv:Pvs D0 D1
 wf:D1.wf
 rel0:D1.rel0 v D1.nb.length
 nl:D1.nb.length=v
 pp:p1<=v
 box:Boxy v D1
 wrs:wrs v D1<0
theorem zHO (hr:∀ l,l∈rows->l.length=v+1)(ho:ob.length=v+1)(hb:Boxy v (zY v rows ob)):BoxRel v (zY v rows ob) (rel v (zY v rows ob).nb 0 (zY v rows ob,0)).1 (rel v (zY v rows ob).nb 0 (zY v rows ob,0)).2:=by
 have hw0:=jX hr ho;have hnl:(zY v rows ob).nb.length=v:=by simp[zY]
 have hrel:=dY (v:=v) hw0 (zY v rows ob).nb 0 (zY v rows ob,0) rfl (Nat.zero_le _) .refl (fun e he=>absurd he (by omega));generalize rel v (zY v rows ob).nb 0 (zY v rows ob,0)=R1 at *
 obtain⟨D1,p1⟩:=R1;obtain⟨q1,q2,q3⟩:=hrel;dsimp only at q1 q2 q3 ⊢;have hn1:D1.nb.length=v:=q1.len.2.trans hnl;have hw1:=q1.wf hw0;have h0:D1.rel0 v D1.nb.length:=by rw[q1.len.2];exact q2
 have hbx:=hb.same (q1.same hw0);refine⟨q1,hw1,h0,hn1,by omega,hbx,Int.not_le.1 fun hle=>?_⟩;obtain⟨w1,w2,w3,_⟩:=(r8 v D1).2 hle;have:=hbx.feas hw1 h0 _ w1 (by simpa[frV] using w2);exact absurd w3 (Rat.not_lt.2 this)
theorem BoxRel.feas {D0 D1:Dic}{p1 r:Nat}(h:BoxRel v D0 D1 p1):vF v r D1 p1=(D1,p1,none,true):=by unfold vF;rw[if_pos h.wrs]
theorem zQW {v:Nat}(hv:v<=12):2^v<=4096:=Nat.pow_le_pow_right (n:=2) (by decide) hv
theorem zH2 (hr:∀ l,l∈rows->l.length=v+1)(ho:ob.length=v+1)(hb:Boxy v (zY v rows ob))(hv:v<=12):∃ s,cS v rows.length (zY v rows ob)=some s/\SolOk v rows ob s/\s.pv<=65536:=by
 have hw0:=jX hr ho;have hnl:(zY v rows ob).nb.length=v:=by simp[zY]
 have hR:=zHO hr ho hb;unfold cS;generalize rel v (zY v rows ob).nb 0 (zY v rows ob,0)=R1 at *
 obtain⟨E,q⟩:=R1;dsimp only at hR ⊢;rw[hR.feas];have hpw:=zQW hv;have hqv:=hR.pp;have hs1:=hR.pv.same hw0;have hE:Feas v (zY v rows ob) E:=⟨hR.wf,hs1,fun X hX=>hR.pv.val hw0 hX,hR.box.feas hR.wf hR.rel0,hR.rel0,hR.nl.trans hnl.symm⟩;dsimp only;cases hfr:fT v E.ob E.nb 0 with
 |some e =>
  obtain⟨f1,f2,f3⟩:=aI (nb:=E.nb) (ys:=E.nb) (j:=0) rfl hfr;exact absurd (yN (d:=0) f1) (hR.box.free hR.wf hR.rel0 f2)
 |none =>
  have hyE:∀ y,y∈E.bs\/y∈E.nb->y<v+rows.length:=fun y hy=>rE.1 ((hs1.vars y).1 hy);have hz:∀ F,Pvs E F->∀ X,F.Sat X->E.val X=dot X F.nb F.ob:=fun F hF X hX=>(hF.val hE.wf (((hF.same hE.wf).sat X).1 hX)).symm;obtain⟨hm,hmo,hmf,hmw⟩:=zE8 (v:=v) (z:=E.val) (ln:=Dic.ob) (p0:=q) (B:=2^v) hE.wf hE.feas hz (fun Ds ls rs es n hB e0=>Boxy.few hB (by rw[e0];exact hR.box) (by rw[e0];have:=hR.rel0;rw[hR.nl] at this;exact this) (by rw[e0];exact hR.nl)) (by omega);generalize wR v Dic.ob (65537-q) E q=R3 at *
  (obtain⟨F,q',e,ok⟩:=R3;dsimp only at hmo hmf hmw ⊢;subst hmo;have hpF:=hm.pvs;dsimp only at hpF;have hwF:=hpF.wf hE.wf;have hsF:=hpF.same hE.wf;have hlF:=hpF.len;obtain⟨n,⟨Ds,ls,rs,es,hB,e0,en,el⟩,hn⟩:=hm.run;dsimp only at en el;have h0F:F.rel0 v E.nb.length:=by have:=BRun.rel0 (m:=E.nb.length) hB (by rw[e0];exact hE.rel0) n (Nat.le_refl _);rw[en] at this;exact this);have hF:Feas v (zY v rows ob) F:=⟨hwF,hsF.trans hE.same,fun X hX=>(hpF.val hE.wf ((hE.same.sat X).2 hX)).trans (hE.val X hX),hmf,by rw[hlF.2];exact h0F,hlF.2.trans hE.nl⟩;have hpo:=zF0 hr ho hF;have hbF:=hR.box.same hsF;have hres:=hm.ok rfl;dsimp only at hres ⊢;split
  {rename_i he;rcases hres.2 with w|⟨w1,w2,w3⟩;{rw[w.1] at he;exact absurd he (by decide)};{rw[w2] at w3 ⊢;obtain⟨k1,k2,k3⟩:=c9 (by rw[<-w2];exact w1);have hra:=zFZ hr ho hF (k:=1) k1 (by rw[Rat.mul_one];exact k3) (fun _=>by decide) (fun i hi hiv=>by rw[Rat.mul_one];exact eA w3 hi hiv);exact⟨_,rfl,⟨fun h=>absurd h (by simp),fun h=>absurd h (by simp),fun _=>⟨rfl,rfl,hpo.1,hra.1,hpo.2.2.1,hra.2.1,hra.2.2⟩,.inr (.inr rfl)⟩,by show q'<=65536;omega⟩}}
  ·(rename_i he;have hent:ent v F.nb F.ob<0:=by rcases hres.2 with w|⟨w1,w2,w3⟩;{exact w.2};{exact absurd w1 he});refine⟨_,rfl,⟨fun _=>⟨hpo.1,hpo.2.2.1,hpo.2.2.2.1,cJ,zBZ fun j hj hjv=>eT hent hj hjv,fun x=>?_,rfl⟩,fun h=>absurd h (by simp),fun h=>absurd h (by simp),.inl rfl⟩,by show q'<=65536;omega⟩;have hX:=(hF.same.sat _).2 (cF (rows:=rows) (ob:=ob) (x:=x));have hv:=hF.val _ (cF (rows:=rows) (ob:=ob) (x:=x));rw[zD0] at hv;rw[<-hv];have hd:=eZ (v:=v) (r:=rows.length) (nb:=F.nb) (l:=F.ob) (X:=full v rows x) hwF.nb (fun j hj hno=>by have h3:=hyE _ ((hsF.vars _).1 (.inr (yN (d:=0) hj)));exact absurd (yN (d:=0) hj) (hbF.free hwF hF.rel0 (by omega)))
   show dot (full v rows x) F.nb F.ob=_;rw[hd,fB (g:=fun k=>atX v x (rows.getD k [])) (fun k hk=>by rw[cJ] at hk;obtain⟨l',hl'⟩:=zT hk;rw[c8 hl',getD_some hl'])]
theorem zI8 {K:Nat}(hr:∀ l,l∈rows->l.length=v+1)(ho:ob.length=v+1)(hb:Boxy v (zY v rows ob))(hv:v<=12)(f1:∀ E,Pvs (zY v rows ob) E->E.fit K):(∀ E,Pvs (zY v rows ob) E->E.fit K)/\Walk v rows.length K (zY v rows ob) (rel v (zY v rows ob).nb 0 (zY v rows ob,0)).1 (rel v (zY v rows ob).nb 0 (zY v rows ob,0)).2:=by
 have hw0:=jX hr ho;have hnl:(zY v rows ob).nb.length=v:=by simp[zY]
 have hbl:(zY v rows ob).bs.length=rows.length:=by simp[zY]
 have hR:=zHO hr ho hb;refine⟨f1,?_⟩;generalize rel v (zY v rows ob).nb 0 (zY v rows ob,0)=R1 at *
 obtain⟨D1,p1⟩:=R1;dsimp only at hR ⊢;have hs1:=hR.pv.same hw0;have hy1:∀ y,y∈D1.bs\/y∈D1.nb->y<v+rows.length:=fun y hy=>rE.1 ((hs1.vars y).1 hy);have hb1:D1.bs.length=rows.length:=hR.pv.len.1.trans hbl;have hpp:=hR.pp;refine⟨hR.wf,hb1,hR.nl,hpp,hy1,f1 D1 hR.pv,fun h=>absurd hR.wrs h,fun l hl=>?_,by rw[hR.feas],by rw[hR.feas];show p1<=65536;omega,fun _=>?_⟩;{rw[hR.feas] at hl;cases hl};{rw[hR.feas];exact⟨hR.wf,hb1,hR.nl,hy1,fun F hF=>f1 F (hR.pv.trans hF)⟩}
end
theorem zMP {v:Nat}{fs:List F}{ob:F}{c:Nat->Int}(hc:∀ t,(c t).natAbs<=2)(hv:v<=12)(hfs:fs.length=2*v)(h0:∀ t,t<v->∃ f,fs[2*t]?=some f/\∀ X,f.at X=X (t:Int))(h1:∀ t,t<v->∃ f,fs[2*t+1]?=some f/\∀ X,f.at X=(((t+1:Nat):Int):Rat)-X (t:Int)) (hw:∀ f,f∈fs->f.wf (v:Int)) (how:ob.wf (v:Int)) (ho:∀ X:Int->Rat,ob.at X=bN c (fun t=>X (t:Int)) v):∃ s,Slv v fs ob 1 s:=by
 have hl:∀ l,l∈fs.map (lnS v)->l.length=v+1:=fun l hl=>by obtain⟨f,hf,rfl⟩:=List.mem_map.1 hl;exact j3
 have hat:∀ {X:Nat->Rat} {i:Nat} {f:F},(zY v (fs.map (lnS v)) (lnS v ob)).Sat X->fs[i]?=some f->X (v+i)=f.at fun i=>X i.toNat:=fun {X i f} hX hf=>by rw[<-m5 (hw f (List.mem_of_getElem? hf))];exact dS.1 hX i _ (by rw[List.getElem?_map,hf];rfl)
 have hb:Boxy v (zY v (fs.map (lnS v)) (lnS v ob)):=⟨fun y=>by rw[rE,List.length_map,hfs],fun X hX t ht=>by
  obtain⟨f,hf,e⟩:=h0 t ht;rw[hat hX hf,e];rfl,fun X hX t ht=>by
  obtain⟨f,hf,e⟩:=h1 t ht;rw[hat hX hf,e];rfl,fun x=>⟨_,cF (x:=x),fun t ht=>zBW ht⟩⟩
 have hw0:(zY v (fs.map (lnS v)) (lnS v ob)).wf:=jX hl j3;have f1:∀ E,Pvs (zY v (fs.map (lnS v)) (lnS v ob)) E->E.fit 1:=fun E hE=>(hb.same (hE.same hw0)).fit (hE.wf hw0) hc hv fun X hX=>by rw[hE.val hw0 (((hE.same hw0).sat X).1 hX)];show atX v X (lnS v ob)=_;rw[m5 how,ho];rfl
 obtain⟨s,hs,h9,h10⟩:=zH2 hl j3 hb hv;obtain⟨w1,w2⟩:=zI8 (K:=1) hl j3 hb hv f1;rw[List.length_map] at hs w2;exact⟨s,hs,h9,h10,zAG (by omega) w2 hs,w1,w2⟩
end Go.Proofs.YtfainocfaddbdaaGreat
