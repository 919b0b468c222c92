/- A part of the proof: WsG, WtA, WtB, WuA, WtC, WvA, WvB, WvC, WvF. -/
import Derived.Test.YtfainocfaddbdaaGreatU34
import Derived.Test.YtfainocfaddbdaaGreatU41
import Derived.Test.YtfainocfaddbdaaGreatU37
import Derived.Test.YtfainocfaddbdaaGreatU35
import Derived.Test.YtfainocfaddbdaaGreatU40
set_option linter.all false
namespace Go.Proofs.YtfainocfaddbdaaGreat
open Go
set_option maxRecDepth 100000
set_option maxHeartbeats 4000000
theorem zV8 {p:Prop}[Decidable p]{A B:(Exit->PS->Prop)->Prop}{Q:Exit->PS->Prop}(h:p)(hA:A Q):Cut (fun _=>decide p) A B Q:=zD (fun _=>hA) (fun e=>absurd h e)
theorem zSV:ty 22=.sli 4 80 [.nil,.ff,.nil,.nil]:=by cbv
theorem zTN:Pg.funcs[38]?=some Tryz.f38:=by rw[vJ];rfl
theorem zZ5 (P:Prg)(a:A)(ha:a.sz (2^32))(hv:a.valid P.v=false):zG 38 [pgv P,av a] (.tup [pgv P,.int .i64 (fun _=>1)]):=by
 have cv:=sR7V a P.v ha;rw[hv] at cv;obtain⟨n,us,ob⟩:=P;obtain⟨ots,oc⟩:=ob;obtain⟨ats,acc⟩:=a;have cv':zG 66 [.agg [tsv ats,.bool (fun _=>acc.neg),nat acc.num,nat acc.den],.int .i64 (fun _=>n)] (.bool (fun _=>false)):=cv;obtain⟨fls,hfl⟩:∃ b,b=false:=⟨_,rfl⟩;rw[<-hfl] at cv';clear cv ha hv;refine yW zTN rfl rfl rfl rfl rfl ?_;cbv;refine cA cv' ?_;cbv;refine z6 (fun e=>by rw[hfl] at e;cases e) (fun e=>?_);cbv
 (refine rC ?_;cbv)
 exact okA
theorem zZ6 (P:Prg)(a:A)(ha:a.sz (2^32))(hv:a.valid P.v=true)(hl:P.rows.length<4096):zG 38 [pgv P,av a] (.tup [pgv ⟨P.v,P.rows++[a],P.ob⟩,.int .i64 (fun _=>0)]):=by
 have cv:=sR7V a P.v ha;rw[hv] at cv;obtain⟨n,us,ob⟩:=P;obtain⟨ots,oc⟩:=ob;obtain⟨ats,acc⟩:=a;have cv':zG 66 [.agg [tsv ats,.bool (fun _=>acc.neg),nat acc.num,nat acc.den],.int .i64 (fun _=>n)] (.bool (fun _=>true)):=cv;obtain⟨tru,htr⟩:∃ b,b=true:=⟨_,rfl⟩;rw[<-htr] at cv';dsimp only at hl;clear cv ha hv;refine yW zTN rfl rfl rfl rfl rfl ?_;cbv;refine cA cv' ?_;cbv;refine z6 (fun e=>?_) (fun e=>by rw[htr] at e;cases e);cbv;refine zD (fun e=>absurd e (by rw[zK];(try dsimp only [zI] at *);omega)) (fun e=>?_);cbv;refine oH 6 [(3,20)] (.fresh 20 4 rfl) (by cbv) (by cbv) ?_;cbv;refine zSB zSV rfl (pO dG _) (yB (by exact dE _) (by simp only[zK];(try dsimp only [zI] at *);omega)) ?_;cbv;refine vW zSV rfl rfl rfl rfl rfl ⟨by simp[yI,x6]⟩ (yB (by exact dE _) (by show (((enc ac us).length+1:Nat):Int)*80<=_;rw[zK];(try dsimp only [zI] at *);omega)) rfl ?_;have hel:enc ac us++yI [ac ⟨ats,acc⟩]=enc ac (us++[⟨ats,acc⟩]):=by simp[enc,yI]
 have es3:((enc ac us++yI [ac ⟨ats,acc⟩]).drop 0).take ((enc ac us).length+(yI [ac ⟨ats,acc⟩]).length)=enc ac (us++[⟨ats,acc⟩]):=by rw[hel,uS,yN (by rw[zK,zK];simp[yI])]
 have es4:0+((enc ac us).length+(yI [ac ⟨ats,acc⟩]).length)<=(enc ac us++yI [ac ⟨ats,acc⟩]).length:=by rw[wP];omega
 cbv;refine zK5 _ (.frz 23 rfl rfl (by cbv;repeat' first|exact trivial|exact yG es4|apply zN) (by cbv;repeat' first|exact trivial|exact yG es4|apply zN)) rfl ?_;cbv;exact⟨⟨lR,zY es3,lR,lR,lR,lR,trivial⟩,lR,trivial⟩
theorem zZW {v k n K:Nat}{fs:List F}{ob:F}(hv:v<=4)(hr:fs.length<=14)(hk:1<=k)(h:∀ f,f∈fs->f.fl k n)(ho:ob.fl k n)(hK:1953125*k<=K):∃ s,Slv v fs ob K s:=by
 have hl:∀ l,l∈fs.map (lnS v)->l.length=v+1:=fun l hl=>by obtain⟨f,hf,rfl⟩:=yS.1 hl;exact eT
 have h2:2^(fs.length+1)<=32768:=gA (n:=2) (by decide) (show fs.length+1<=15 by omega);have h3:2^fs.length<=16384:=gA (n:=2) (by decide) (show fs.length<=14 by omega);have hp:v+1+2^((fs.map (lnS v)).length+1)+2^(fs.map (lnS v)).length<=65537:=by rw[y8];omega
 have h5:5^v<=625:=gA (n:=5) (by decide) hv;have h6:5^(v+1)<=3125:=gA (n:=5) (by decide) (show v+1<=5 by omega);have h7:5^v*k<=625*k:=qE k h5;have h8:5^(v+1)*(5^v*k)<=3125*(625*k):=s8 h6 h7;have hf:=zPC (v:=v) hk h ho;obtain⟨s,hs,h9,h10⟩:=zRA hl eT hp;obtain⟨w1,w2⟩:=zUM (K:=K) hl eT hp hk hf oM (zQK hl eT hk hf oM);rw[y8] at hs w2;exact⟨s,hs,h9,h10,zPE oM w2 hs,w1,w2⟩
theorem zDS {fs:List F}{f:F}{X:Int->Rat}:Pts (fs++[f]) X↔Pts fs X/\0<=f.at X:=by unfold Pts;constructor;{intro h;exact⟨fun g hg=>h g (dB _ hg),h f (c9 _ (kE.2 rfl))⟩};{rintro⟨h1,h2⟩ g hg;rcases wQ.1 hg with h|h;{exact h1 g h};{rw[kE.1 h];exact h2}}
theorem zU2 {v r K:Nat}{D0:Dic}{s:SolR}(W:Walk v r K D0 (rel v D0.nb 0 (D0,0)).1 (rel v D0.nb 0 (D0,0)).2)(hs:r9 v r D0=some s):s.bas.length<=r:=by
 have hok:=W.ok;have hno:=W.none;unfold r9 at hs;obtain⟨⟨E,q,ref,ok⟩,hR⟩:∃ R,qT v r (rel v D0.nb 0 (D0,0)).1 (rel v D0.nb 0 (D0,0)).2=R:=⟨_,rfl⟩;rw[hR] at hs hok hno;dsimp only at hok hno;subst hok;cases ref with
 |some l=>cases vC hs;exact wH _
 |none =>
  obtain⟨_,hb,_⟩:=hno rfl;dsimp only at hs;split at hs;{cases vC hs;exact wH _}
  ·have hm:=(rO (v:=v) (ln:=Dic.ob) (65537-q) E q).1;obtain⟨⟨F,q2,e,ok⟩,hR3⟩:∃ R,qG v Dic.ob (65537-q) E q=R:=⟨_,rfl⟩;rw[hR3] at hs hm;dsimp only at hm;have hl:=hm.len;cases ok with
   |false=>cases hs
   |true =>
    dsimp only at hs;split at hs;{cases vC hs;exact wH _};{cases vC hs;show F.bs.length<=r;omega}
theorem Slv.lens {v K:Nat}{fs:List F}{ob:F}{s:SolR}(h:Slv v fs ob K s)(hv:v<=4)(hl:fs.length<=14):s.pt.length<=14/\s.du.length<=14/\s.ry.length<=14/\s.bas.length<=14:=by have hb:=zU2 h.walk h.some;have hm:(fs.map (lnS v)).length=fs.length:=y8 ..;have e0:([]:List Rat).length=0:=rfl;rcases h.ok.one with e|e|e;{obtain⟨g1,_,_,g2,_,_,g3⟩:=h.ok.opt e;rw[g3];omega};{obtain⟨g1,g2,_,g3,_⟩:=h.ok.inf e;rw[g1,g2];omega};{obtain⟨g1,_,g2,g3,_⟩:=h.ok.unb e;rw[g1];omega}
theorem zFO:∀ (l:List Rat) (g:Nat->Rat),fP (l++[0]) g=fP l g
 |[],g=>by simp[fP] <;> grind| a::l,g=>by have:=zFO l (fun k=>g (k+1));simp only[mM,fP];rw[this]
theorem SolOk.more {v:Nat}{rows:List (List Rat)}{ob l:List Rat}{s:SolR}(h:SolOk v rows ob s)(hs:s.st=2):SolOk v (rows++[l]) ob { s with du:=s.du++[0] }:=by
 obtain⟨g1,g2,g3,g4,g5,k,g6,g7⟩:=h.inf hs;refine⟨fun e=>absurd (hs.symm.trans e) (by decide),fun _=>⟨g1,g2,g3,?_,?_,k,g6,fun x=>?_⟩,fun e=>absurd (hs.symm.trans e) (by decide),.inr (.inl hs)⟩;{show (s.du++[0]).length=_;rw[wP,wP,g4];rfl};{intro c hc;rcases wQ.1 hc with w|w;{exact g5 c w};{rw[kE.1 w];exact qV}}
 ·(show fP (s.du++[0]) _+k=0;rw[zFO,<-g7 x];congr 1;refine bW fun i hi=>?_;have:(rows++[l]).getD i []=rows.getD i []:=by rw[yC,yC,uD oM]);rw[this]
structure PX (v:Nat) (fs:List F) (ob:F) (k n:Nat):Prop where
 lv:v<=4
 len:fs.length<=14
 rows:∀ f,f∈fs->f.fl k n/\f.wf (v:Int)
 obj:ob.fl k n/\ob.wf (v:Int)
 k1:1<=k
 k2:k<=500
 hn:n<2^20
structure AnsO (v:Nat) (fs:List F) (ob:F) (K:Nat) (s:SolR):Prop where
 sl:Slv v fs ob K s
 sem:Sem fs ob s.st s.val
 call:Sound 20 [pgo 1000009 (prg v fs ob)] (rwO 1000009 (fs.map fA)) [] (.tup [slv s,.int .i64 (fun _=>0)]) (rwO 1000009 (fs.map fA)) []
section
variable {v k n:Nat} {fs:List F} {ob:F}
theorem PX.valid (h:PX v fs ob k n):(prg v fs ob).valid=true:=by have:=h.lv;have:=h.len;unfold Prg.valid;show (decide (0<=(v:Int)/\(v:Int)<=1280/\(fs.map fA).length<=4096)&&(fA ob).valid (v:Int)&&(fs.map fA).all (A.valid (v:Int)))=true;rw[decide_eq_true (by rw[y8];omega),h.obj.2.valid,zZO fun f hf=>(h.rows f hf).2];rfl
theorem PX.sz (h:PX v fs ob k n):(prg v fs ob).sz k where
 rows:=⟨by show (fs.map fA).length<_;rw[y8];have:=h.len;omega,fun a ha=>by obtain⟨f,hf,rfl⟩:=yS.1 ha;exact ((h.rows f hf).1.fit (by have:=h.hn;omega)).fA⟩
 ob:=(h.obj.1.fit (by have:=h.hn;omega)).fA
theorem PX.solve (h:PX v fs ob k n):∃ s,AnsO v fs ob (1953125*k) s:=by
 obtain⟨s,hs⟩:=zZW (K:=1953125*k) h.lv h.len h.k1 (fun f hf=>(h.rows f hf).1) h.obj.1 (zV _);have hk:1953125*k<=2^30:=by have:=h.k2;omega
 have h1:=h.hn;have h2:=h.lv;have h3:=h.len;exact⟨s,hs,hs.ok.sem (fun f hf=>(h.rows f hf).2) h.obj.2,zPN v 0 fs ob s (h.sz.mono (by have:=h.k2;omega)) h.valid oM oM
  (fun f hf=>⟨by have:=(h.rows f hf).1.len;omega,(h.rows f hf).2.v⟩) (by have:=h.obj.1.len;omega) h.obj.2.v (fun E hE=>(hs.piv E hE).mono hk) (hs.walk.mono hk) hs.some⟩
theorem PX.more (h:PX v fs ob k n){f:F}(hl:fs.length<14)(hf:f.fl k n/\f.wf (v:Int)):PX v (fs++[f]) ob k n :=
 ⟨h.lv,by rw[wP];show fs.length+1<=14;omega,fun g hg=>by
  rcases wQ.1 hg with w|w;{exact h.rows g w}
  ·rw[kE.1 w];exact hf,h.obj,h.k1,h.k2,h.hn⟩
end
theorem zMY {fs:List F}{ob:F}{st:Nat}{z w:Rat}(h:Sem fs ob st z)(lo:∀ X,Pts fs X->w<=ob.at X){X:Int->Rat}(hX:Pts fs X)(e:ob.at X=w):st=1/\z=w:=by rcases h.one with e1|e1|e1;{obtain⟨⟨Y,y1,y2⟩,y3⟩:=h.opt e1;have h1:=lo Y y1;have h2:=y3 X hX;exact⟨e1,by grind⟩};{exact absurd hX ((h.inf e1).2 X)};{obtain⟨Y,y1,y2⟩:=(h.unb e1).2 w;have h1:=lo Y y1;exact absurd y2 (by grind)}
theorem zYZ {fs:List F}{ob:F}{st:Nat}{z:Rat}(h:Sem fs ob st z)(no:∀ X,¬Pts fs X):st=2:=by rcases h.one with e|e|e;{obtain⟨⟨Y,y1,y2⟩,y3⟩:=h.opt e;exact absurd y1 (no Y)};{exact e};{obtain⟨Y,y1,y2⟩:=(h.unb e).2 2;exact absurd y1 (no Y)}
def wR1:List F:=[frm 1 0 0,frm 0 1 0]
def wR2:List F:=wR1++[frm 1 2 (-4)]
def wR3:List F:=wR2++[frm 1 (-1) 0]
def wR4:List F:=wR3++[frm (-1) 0 1]
theorem zWI (X:Int->Rat):(frm 1 (-1) 0).at X=X 0-X 1/\(frm (-1) 0 1).at X=1-X 0:=by
 have e1:frm 1 (-1) 0=⟨[(0,1),(1,-1)],0⟩:=by unfold frm;congr 1
 have e2:frm (-1) 0 1=⟨[(0,-1)],1⟩:=by unfold frm;congr 1
 rw[e1,e2,at2,at1];refine⟨?_,?_⟩ <;> grind
theorem wp1 {X:Int->Rat}:Pts wR1 X↔0<=X 0/\0<=X 1:=by obtain⟨h1,h2,h3,h4,h5,h6⟩:=zUG X;unfold wR1 Pts;simp only[z9,List.not_mem_nil,or_false,forall_eq_or_imp,forall_eq,h2,h3]
theorem wp2 {X:Int->Rat}:Pts wR2 X↔(0<=X 0/\0<=X 1)/\0<=X 0+2*X 1-4:=by obtain⟨h1,h2,h3,h4,h5,h6⟩:=zUG X;unfold wR2;rw[zDS,wp1,h1]
theorem wp3 {X:Int->Rat}:Pts wR3 X↔((0<=X 0/\0<=X 1)/\0<=X 0+2*X 1-4)/\0<=X 0-X 1:=by unfold wR3;rw[zDS,wp2,(zWI X).1]
theorem wp4 {X:Int->Rat}:Pts wR4 X↔(((0<=X 0/\0<=X 1)/\0<=X 0+2*X 1-4)/\0<=X 0-X 1)/\0<=1-X 0:=by unfold wR4;rw[zDS,wp3,(zWI X).2]
theorem wob (X:Int->Rat):(frm 1 1 0).at X=X 0+X 1:=(zUG X).2.2.2.1
theorem wpt (a b:Rat):∃ X:Int->Rat,X 0=a/\X 1=b:=⟨fun i=>if i=1 then b else a,rfl,rfl⟩
theorem wx1 {st:Nat}{z:Rat}(h:Sem wR1 (frm 1 1 0) st z):st=1/\z=0:=by obtain⟨X,e0,e1⟩:=wpt 0 0;refine zMY h (fun Y hY=>?_) (X:=X) (wp1.2 (by rw[e0,e1];decide +kernel)) (by rw[wob,e0,e1];decide +kernel);have:=wp1.1 hY;rw[wob];grind
theorem wx2 {st:Nat}{z:Rat}(h:Sem wR2 (frm 1 1 0) st z):st=1/\z=2:=by obtain⟨X,e0,e1⟩:=wpt 0 2;refine zMY h (fun Y hY=>?_) (X:=X) (wp2.2 (by rw[e0,e1];decide +kernel)) (by rw[wob,e0,e1];decide +kernel);have:=wp2.1 hY;rw[wob];grind
theorem wx3 {st:Nat}{z:Rat}(h:Sem wR3 (frm 1 1 0) st z):st=1/\z=8/3:=by obtain⟨X,e0,e1⟩:=wpt (4/3) (4/3);refine zMY h (fun Y hY=>?_) (X:=X) (wp3.2 (by rw[e0,e1];refine⟨⟨⟨?_,?_⟩,?_⟩,?_⟩ <;> grind)) (by rw[wob,e0,e1];grind);have:=wp3.1 hY;rw[wob];grind
theorem wx4 {st:Nat}{z:Rat}(h:Sem wR4 (frm 1 1 0) st z):st=2:=zYZ h fun X hX=>by have:=wp4.1 hX;grind
theorem wq1:PX 2 wR1 (frm 1 1 0) 5 2:=⟨by decide,by decide,fun f hf=>by
 have:f=frm 1 0 0\/f=frm 0 1 0:=by simpa[wR1] using hf
 rcases this with rfl|rfl;{exact⟨l8 (by decide) (by decide) (by decide),zK0 (by decide +kernel)⟩}
 ·exact⟨l8 (by decide) (by decide) (by decide),zK0 (by decide +kernel)⟩,⟨l8 (by decide) (by decide) (by decide),zK0 (by decide +kernel)⟩,by decide,by decide,by decide⟩
theorem wq2:PX 2 wR2 (frm 1 1 0) 5 2:=wq1.more (by decide) ⟨l8 (by decide) (by decide) (by decide),zK0 (by decide +kernel)⟩
theorem wq3:PX 2 wR3 (frm 1 1 0) 5 2:=wq2.more (by decide) ⟨l8 (by decide) (by decide) (by decide),zK0 (by decide +kernel)⟩
theorem wq4:PX 2 wR4 (frm 1 1 0) 5 2:=wq3.more (by decide) ⟨l8 (by decide) (by decide) (by decide),zK0 (by decide +kernel)⟩
structure WT where
 us:List A
 sd:Bool
 st:Int
 z:R
 pt:List Rat
 du:List Rat
 ry:List Rat
 bas:List Nat
 pv:Int
abbrev wB (n:Nat) (v:Int) (ots:List (Int×R)) (oc:R) (t:WT):Obj':=.box (wC n v t.us ots oc t.sd t.st t.z t.pt t.du t.ry t.bas t.pv 0)
abbrev wR (t:WT):Obj':=.arr 4 (fun _=>enc ac t.us)
def WT.of (us:List A) (s:SolR):WT:=⟨us,true,s.st,zJ s.val,s.pt,s.du,s.ry,s.bas,s.pv⟩
def WT.new (us:List A):WT:=⟨us,false,0,⟨false,[],[]⟩,[],[],[],[],0⟩
structure Sgd (v:Nat) (fs:List F) (ob:F) (K:Nat) (s:SolR):Prop where
 ok:SolOk v (fs.map (lnS v)) (lnS v ob) s
 fit:SolFit K s
 len:s.pt.length<=14/\s.du.length<=14/\s.ry.length<=14/\s.bas.length<=14
structure WG (v:Nat) (fs:List F) (ob:F) (K:Nat) (t:WT):Prop where
 us:t.us=fs.map fA
 sol:t.sd=true->∃ s,Sgd v fs ob K s/\t=WT.of (fs.map fA) s
section
variable {v k n K:Nat} {fs:List F} {ob:F} {t:WT}
theorem Sgd.good {s:SolR}(h:Sgd v fs ob K s):WG v fs ob K (WT.of (fs.map fA) s):=⟨rfl,fun _=>⟨s,h,rfl⟩⟩
theorem WG.new:WG v fs ob K (WT.new (fs.map fA)):=⟨rfl,fun h=>by cases h⟩
theorem PX.sgd (hp:PX v fs ob k n)(hK:1953125*k<=K):∃ s,Sgd v fs ob K s/\AnsO v fs ob (1953125*k) s:=by obtain⟨s,hs⟩:=hp.solve;have h1:=hs.sl.fit;exact⟨s,⟨hs.sl.ok,⟨h1.val.mono hK,h1.pt.mono hK,h1.du.mono hK,h1.ry.mono oM⟩,hs.sl.lens hp.lv hp.len⟩,hs⟩
theorem WG.solve (h:WG v fs ob K t)(hp:PX v fs ob k n)(hK:1953125*k<=K):∃ s,Sgd v fs ob K s /\ Sound 37 [.ptr 1000000 0] [(1000000,wB 1000001 v (fA ob).ts (fA ob).c t),(1000001,wR t)] [] (.tup [slv s,.int .i64 (fun _=>0)]) [(1000000,wB 1000001 v (fA ob).ts (fA ob).c (WT.of (fs.map fA) s)),(1000001,wR (WT.of (fs.map fA) s))] []:=by
 cases hsd:t.sd with
 |true =>
  obtain⟨s,hs,rfl⟩:=h.sol hsd;obtain⟨l1,l2,l3,l4⟩:=hs.len;exact⟨s,hs,zX6 v (fs.map fA) (fA ob).ts (fA ob).c s.st (zJ s.val) s.pt s.du s.ry s.bas s.pv 0 oM oM oM oM⟩
 |false =>
  obtain⟨us,sd,st,z,pt,du,ry,bas,pv⟩:=t;have hu:=h.us;dsimp only at hu hsd;subst hu hsd;obtain⟨s,h1,h2⟩:=hp.sgd hK;obtain⟨l1,l2,l3,l4⟩:=h1.len;exact⟨s,h1,zEV v (fs.map fA) (fA ob).ts (fA ob).c st z pt du ry bas pv 0 s h2.call oM oM oM oM⟩
def addF (v:Nat) (fs:List F) (a:A):List F:=if a.valid v=true then fs++[a.f] else fs
def addE (v:Nat) (a:A):Int:=if a.valid v=true then 0 else 1
theorem SolFit.more {s:SolR}(h:SolFit K s)(hk:1<=K):SolFit K { s with du:=s.du++[0] }:=⟨h.val,h.pt,fun q hq=>by
 rcases wQ.1 hq with w|w;{exact h.du q w}
 ·rw[kE.1 w];exact (show Fits 1 (0:Rat) from⟨by decide,by decide⟩).mono hk,h.ry⟩
theorem WG.add (h:WG v fs ob K t)(hk:1<=K)(a:A)(ha:a.sz (2^32))(hl:fs.length<14):∃ t',WG v (addF v fs a) ob K t' /\ Sound 39 [.ptr 1000000 0,av a] [(1000000,wB 31 v (fA ob).ts (fA ob).c t)] [(31,wR t)] (.int .i64 (fun _=>addE v a)) [(1000000,wB 31 v (fA ob).ts (fA ob).c t')] [(31,wR t')]:=by
 by_cases hv:a.valid v=true
 ·(have e1:addF v fs a=fs++[a.f]:=if_pos hv;have e2:addE v a=0:=if_pos hv;rw[e1,e2];have hc:=(dO hv).1;have em:(fs++[a.f]).map fA=fs.map fA++[a]:=by rw[gL];show _++[fA a.f]=_;rw[hc]);by_cases hs2:t.sd=true/\t.st=2
  ·(obtain⟨s,hs,rfl⟩:=h.sol hs2.1;have h2:s.st=2:=by have:((s.st:Nat):Int)=2:=hs2.2;omega);obtain⟨l1,l2,l3,l4⟩:=hs.len
   have hd:=(hs.ok.inf h2).2.2.2.1;rw[y8] at hd;have hs':Sgd v (fs++[a.f]) ob K { s with du:=s.du++[0] }:=⟨by rw[gL];exact hs.ok.more h2,hs.fit.more hk,l1,by show (s.du++[0]).length<=14;rw[wP];show s.du.length+1<=14;omega,l3,l4⟩;refine⟨WT.of ((fs++[a.f]).map fA) { s with du:=s.du++[0] },hs'.good,?_⟩;rw[em];exact zX7 a v (fs.map fA) (fA ob).ts (fA ob).c s.st (zJ s.val) s.pt s.du s.ry s.bas s.pv ha hv (by rw[y8];omega) oM hs2.2
  {obtain⟨us,sd,st,z,pt,du,ry,bas,pv⟩:=t;have hu:=h.us;dsimp only at hu hs2;subst hu;refine⟨⟨(fs++[a.f]).map fA,false,st,z,pt,du,ry,bas,pv⟩,⟨rfl,fun h=>by cases h⟩,?_⟩;rw[em];exact zEW a v (fs.map fA) (fA ob).ts (fA ob).c sd st z pt du ry bas pv ha hv (by rw[y8];omega) hs2}
 ·(have hv':a.valid v=false:=by cases e:a.valid v with|true=>exact absurd e hv|false=>rfl);have e1:addF v fs a=fs:=if_neg hv
  have e2:addE v a=1:=if_neg hv;rw[e1,e2];exact⟨t,h,zS4 a v t.us (fA ob).ts (fA ob).c t.sd t.st t.z t.pt t.du t.ry t.bas t.pv ha hv'⟩
theorem PX.add (h:PX v fs ob 2 8){a:A}(ha:a.small=true)(hl:fs.length<14):PX v (addF v fs a) ob 2 8:=by unfold addF;split;{rename_i hv;exact h.more hl ⟨zDG ha,(dO hv).2⟩};{exact h}
end
def accF (v:Nat) (fs:List F) (rows:List A) (i:Nat):List F:=(rows.take i).foldl (addF v) fs
theorem zAT {v:Nat}{fs:List F}{rows:List A}{i:Nat}{a:A}(h:rows[i]?=some a):accF v fs rows (i+1)=addF v (accF v fs rows i) a:=by unfold accF;rw[rA,h,zT1];rfl
theorem zSO {v:Nat}{fs:List F}{a:A}:(addF v fs a).length<=fs.length+1:=by unfold addF;split;{rw[wP];exact zV _};{omega}
theorem zEK {v:Nat}{fs:List F}{rows:List A}:∀ {i:Nat},i<=rows.length->(accF v fs rows i).length<=fs.length+i
 |0,_=>by show fs.length<=_;omega| i+1,h=>by obtain⟨a,ha⟩:=zO (show i<rows.length by omega);rw[zAT ha];have h1:=zEK (v:=v) (fs:=fs) (rows:=rows) (i:=i) oM;have h2:=zSO (v:=v) (fs:=accF v fs rows i) (a:=a);omega
theorem PX.acc {v:Nat}{fs:List F}{ob:F}{rows:List A}(h:PX v fs ob 2 8)(hr:∀ a,a∈rows->a.small=true)(hl:fs.length+rows.length<=14):∀ {i:Nat},i<=rows.length->PX v (accF v fs rows i) ob 2 8
 |0,_=>h| i+1,hi=>by obtain⟨a,ha⟩:=zO (show i<rows.length by omega);rw[zAT ha];have h1:=zEK (v:=v) (fs:=fs) (rows:=rows) (i:=i) oM;exact (PX.acc h hr hl oM).add (hr a (zZ ha)) oM
theorem PW.px {v k n:Nat}{fs:List F}{ob:F}(h:PW v fs ob k n):PX v fs ob k n:=⟨h.lv,by have:=h.len;omega,h.rows,h.obj,h.k1,h.k2,h.hn⟩
theorem zK4 {c0 c1 c:Int}(h0:c0.natAbs<=8)(h1:c1.natAbs<=8)(h2:c.natAbs<=8):zG 76 [.int .i64 (fun _=>c0),.int .i64 (fun _=>c1),.int .i64 (fun _=>c)] (av (fA (frm c0 c1 c))):=by
 have cf:=zVF h0 h1 h2;have k0:=s32 c0 oM oM;have k1:=s32 c1 oM oM;have k2:=s32 c oM oM;refine sF Tryz.f76 ?_;obtain⟨a,ha⟩:∃ a,fA (frm c0 c1 c)=a:=⟨_,rfl⟩;rw[ha] at cf;rw[ha];obtain⟨ats,ac0⟩:=a;obtain⟨A0,hA0⟩:∃ a,zJ (c0:Rat)=a:=⟨_,rfl⟩;obtain⟨A1,hA1⟩:∃ a,zJ (c1:Rat)=a:=⟨_,rfl⟩;obtain⟨A2,hA2⟩:∃ a,zJ (c:Rat)=a:=⟨_,rfl⟩;rw[hA0] at k0 cf;rw[hA1] at k1 cf;rw[hA2] at k2 cf;clear hA0 hA1 hA2;cbv;refine cA k0 ?_;cbv;refine cA k1 ?_;cbv;refine cA k2 ?_;cbv;refine cA cf ?_;cbv
 (refine rC ?_;cbv)
 exact okA
theorem zM5 {c0 c1 c:Int}(h0:c0.natAbs<=8)(h1:c1.natAbs<=8)(h2:c.natAbs<=8):(fA (frm c0 c1 c)).sz (2^32):=(((l8 h0 h1 h2).fit (by decide)).fA).mono (by decide)
theorem yAG:zG 34 [] (.bool (fun _=>true)):=by
 obtain⟨s1,a1⟩:=wq1.solve;obtain⟨s2,a2⟩:=wq2.solve;obtain⟨s3,a3⟩:=wq3.solve;obtain⟨s4,a4⟩:=wq4.solve;obtain⟨t1,z1⟩:=wx1 a1.sem;obtain⟨t2,z2⟩:=wx2 a2.sem;obtain⟨t3,z3⟩:=wx3 a3.sem;have t4:=wx4 a4.sem;have l1:=a1.sl.lens wq1.lv wq1.len;have l2:=a2.sl.lens wq2.lv wq2.len;have l3:=a3.sl.lens wq3.lv wq3.len;have l4:=a4.sl.lens wq4.lv wq4.len;have n1:=zWN (prg 2 wR1 (frm 1 1 0)) (wq1.sz.mono (by decide)) (by show (wR1.map fA).length<_;decide) wq1.valid;have m1:Sound 20 [pgo 1000009 ⟨((2:Nat):Int),wR1.map fA,fA (frm 1 1 0)⟩] (rwO 1000009 (wR1.map fA)) [] (.tup [slv s1,.int .i64 (fun _=>0)]) (rwO 1000009 (wR1.map fA)) []:=a1.call;have m2:Sound 20 [pgo 1000009 ⟨((2:Nat):Int),wR2.map fA,fA (frm 1 1 0)⟩] (rwO 1000009 (wR2.map fA)) [] (.tup [slv s2,.int .i64 (fun _=>0)]) (rwO 1000009 (wR2.map fA)) []:=a2.call;have m3:Sound 20 [pgo 1000009 ⟨((2:Nat):Int),wR3.map fA,fA (frm 1 1 0)⟩] (rwO 1000009 (wR3.map fA)) [] (.tup [slv s3,.int .i64 (fun _=>0)]) (rwO 1000009 (wR3.map fA)) []:=a3.call;have m4:Sound 20 [pgo 1000009 ⟨((2:Nat):Int),wR4.map fA,fA (frm 1 1 0)⟩] (rwO 1000009 (wR4.map fA)) [] (.tup [slv s4,.int .i64 (fun _=>0)]) (rwO 1000009 (wR4.map fA)) []:=a4.call;have n1':Sound 36 [pgv ⟨((2:Nat):Int),wR1.map fA,fA (frm 1 1 0)⟩] [] [] (.tup [.ptr 10 0,.int .i64 (fun _=>0)]) [] [(10,.box (wNew 8 ((2:Nat):Int) (wR1.map fA) (fA (frm 1 1 0)).ts (fA (frm 1 1 0)).c)),(8,.arr 4 (fun _=>enc ac (wR1.map fA)))]:=n1;have v1:(fA (frm 1 2 (-4))).valid 2=true:=by decide +kernel
 have v2:(fA (frm 1 (-1) 0)).valid 2=true:=by decide +kernel
 have v3:(fA (frm (-1) 0 1)).valid 2=true:=by decide +kernel
 have x1:=zM5 (c0:=1) (c1:=2) (c:=-4) (by decide) (by decide) (by decide);have x2:=zM5 (c0:=1) (c1:=-1) (c:=0) (by decide) (by decide) (by decide);have x3:=zM5 (c0:=-1) (c1:=0) (c:=1) (by decide) (by decide) (by decide);have ka:=zK4 (c0:=1) (c1:=1) (c:=0) (by decide) (by decide) (by decide);have kb:=zK4 (c0:=1) (c1:=2) (c:=-4) (by decide) (by decide) (by decide);have kc:=zK4 (c0:=1) (c1:=0) (c:=0) (by decide) (by decide) (by decide);have kd:=zK4 (c0:=0) (c1:=1) (c:=0) (by decide) (by decide) (by decide);have ke:=zK4 (c0:=1) (c1:=-1) (c:=0) (by decide) (by decide) (by decide);have kf:=zK4 (c0:=-1) (c1:=0) (c:=1) (by decide) (by decide) (by decide);have ko:=s32 2 (by decide) (by decide);have f2:Fits 1 (2:Rat):=⟨by decide,by decide⟩;have f83:Fits 1 (8/3:Rat):=⟨by decide +kernel,by decide +kernel⟩;have kp:=oO 2 (f2.mono (by decide));have kq:=oO (8/3) (f83.mono (by decide));have f0:Fits 1 (0:Rat):=⟨by decide,by decide⟩;have s0:=s35 (zJ 0) (by have:=(yF f0).n;omega);rw[yY,show xF (0:Rat)=0 by decide +kernel] at s0;have kr:=s43 8 3 (by decide) (by decide) (by decide) (by decide) (by decide);rw[show pR 8 3=(8/3:Rat) by decide +kernel] at kr;rw[show ((2:Int):Rat)=2 from rfl] at ko;obtain⟨a,ha⟩:∃ a,fA (frm 1 1 0)=a:=⟨_,rfl⟩;obtain⟨b,hb⟩:∃ a,fA (frm 1 2 (-4))=a:=⟨_,rfl⟩;obtain⟨c,hc⟩:∃ a,fA (frm 1 0 0)=a:=⟨_,rfl⟩;obtain⟨d,hd⟩:∃ a,fA (frm 0 1 0)=a:=⟨_,rfl⟩;obtain⟨e,he⟩:∃ a,fA (frm 1 (-1) 0)=a:=⟨_,rfl⟩;obtain⟨f,hf⟩:∃ a,fA (frm (-1) 0 1)=a:=⟨_,rfl⟩;have e1:wR1.map fA=[c,d]:=by show [fA _,fA _]=_;rw[hc,hd]
 have e2:wR2.map fA=[c,d]++[b]:=by show [fA _,fA _,fA _]=_;rw[hc,hd,hb];rfl
 have e3:wR3.map fA=[c,d]++[b]++[e]:=by show [fA _,fA _,fA _,fA _]=_;rw[hc,hd,hb,he];rfl
 have e4:wR4.map fA=[c,d]++[b]++[e]++[f]:=by show [fA _,fA _,fA _,fA _,fA _]=_;rw[hc,hd,hb,he,hf];rfl
 have e5:((2:Nat):Int)=2:=rfl;rw[e1,ha,e5] at n1' m1;rw[e2,ha,e5] at m2;rw[e3,ha,e5] at m3;rw[e4,ha,e5] at m4;rw[ha] at ka;rw[hb] at kb v1 x1;rw[hc] at kc;rw[hd] at kd;rw[he] at ke v2 x2;rw[hf] at kf v3 x3;clear n1 a1 a2 a3 a4 ha hb hc hd he hf e1 e2 e3 e4 e5;obtain⟨st1,w1,p1,d1,r1,b1,q1⟩:=s1;obtain⟨st2,w2,p2,d2,r2,b2,q2⟩:=s2;obtain⟨st3,w3,p3,d3,r3,b3,q3⟩:=s3;obtain⟨st4,w4,p4,d4,r4,b4,q4⟩:=s4;dsimp only at t1 t2 t3 t4 z1 z2 z3 l1 l2 l3 l4;subst t1 t2 t3 t4 z1 z2 z3;obtain⟨ots,oc⟩:=a;have g1:=zEV 2 [c,d] ots oc 0 ⟨false,[],[]⟩ [] [] [] [] 0 0 _ m1 (by dsimp only;omega) (by dsimp only;omega) (by dsimp only;omega) (by dsimp only;omega);have h1:=zEW b 2 [c,d] ots oc true 1 (zJ 0) p1 d1 r1 b1 q1 x1 v1 (by simp) (by decide);have g2:=zEV 2 ([c,d]++[b]) ots oc 1 (zJ 0) p1 d1 r1 b1 q1 0 _ m2 (by dsimp only;omega) (by dsimp only;omega) (by dsimp only;omega) (by dsimp only;omega);have h2:=zEW e 2 ([c,d]++[b]) ots oc true 1 (zJ 2) p2 d2 r2 b2 q2 x2 v2 (by simp) (by decide);have g3:=zEV 2 ([c,d]++[b]++[e]) ots oc 1 (zJ 2) p2 d2 r2 b2 q2 0 _ m3 (by dsimp only;omega) (by dsimp only;omega) (by dsimp only;omega) (by dsimp only;omega);have h3:=zEW f 2 ([c,d]++[b]++[e]) ots oc true 1 (zJ (8/3)) p3 d3 r3 b3 q3 x3 v3 (by simp) (by decide);have g4:=zEV 2 ([c,d]++[b]++[e]++[f]) ots oc 1 (zJ (8/3)) p3 d3 r3 b3 q3 0 _ m4 (by dsimp only;omega) (by dsimp only;omega) (by dsimp only;omega) (by dsimp only;omega);have u5:=zZX 2 ([c,d]++[b]++[e]++[f]) ots oc true 2 (zJ w4) p4 d4 r4 b4 q4 0;clear m1 m2 m3 m4 x1 x2 x3 v1 v2 v3 l1 l2 l3 l4;dsimp only at g1 h1 g2 h2 g3 h3 g4 u5;obtain⟨Z0,hZ0⟩:∃ Z,zJ 0=Z:=⟨_,rfl⟩;obtain⟨Z2,hZ2⟩:∃ Z,zJ 2=Z:=⟨_,rfl⟩;obtain⟨Z8,hZ8⟩:∃ Z,zJ (8/3)=Z:=⟨_,rfl⟩;obtain⟨Z4,hZ4⟩:∃ Z,zJ w4=Z:=⟨_,rfl⟩
 try unfold slv at g1 g2 g3 g4
 dsimp only at g1 g2 g3 g4;rw[hZ0] at g1 h1 g2 s0;rw[hZ2] at g2 h2 g3 ko kp;rw[hZ8] at g3 h3 g4 kq kr;rw[hZ4] at g4 u5;clear hZ0 hZ2 hZ8 hZ4;obtain⟨bts,bc⟩:=b;obtain⟨cts,cc⟩:=c;obtain⟨dts,dc⟩:=d;obtain⟨ets,ec⟩:=e;obtain⟨fts,fc⟩:=f;refine sF Tryz.f34 ?_;cbv;refine cA ka ?_;cbv;refine cA kc ?_;cbv;refine cA kd ?_;cbv;refine zZK ?_;cbv;refine yU hnM9 (.refl _) rfl (by exact⟨⟨lR,zY rfl,lR,lR,lR,lR,trivial⟩,trivial⟩) n1' (by exact trivial) rfl rfl rfl rfl rfl rfl rfl rfl ?_;cbv;refine uF rfl ?_;cbv;refine sX rfl ?_;cbv;refine yU hnM9 (.refl _) rfl okA g1 okR rfl rfl rfl rfl rfl rfl rfl rfl ?_;cbv;refine cA kb ?_;cbv;refine yU hnM9 (.refl _) rfl okA h1 okR rfl rfl rfl rfl rfl rfl rfl rfl ?_;cbv;refine yU hnM9 (.refl _) rfl okA g2 okR rfl rfl rfl rfl rfl rfl rfl rfl ?_;cbv;refine cA ke ?_;cbv;refine yU hnM9 (.refl _) rfl okA h2 okR rfl rfl rfl rfl rfl rfl rfl rfl ?_;cbv;refine yU hnM9 (.refl _) rfl okA g3 okR rfl rfl rfl rfl rfl rfl rfl rfl ?_;cbv;refine cA kr ?_;cbv;refine cA kf ?_;cbv;refine yU hnM9 (.refl _) rfl okA h3 okR rfl rfl rfl rfl rfl rfl rfl rfl ?_;cbv;refine yU hnM9 (.refl _) rfl okA g4 okR rfl rfl rfl rfl rfl rfl rfl rfl ?_;cbv;refine zT 28 (by cbv) ?_;cbv;refine uF rfl ?_;cbv;refine dA s0 ?_;cbv;refine uF rfl ?_;cbv;refine uF rfl ?_;cbv;refine dA ko ?_;cbv;refine dA kp ?_;cbv;refine uF rfl ?_;cbv;refine uF rfl ?_;cbv;refine cA kq ?_;cbv;refine uF rfl ?_;cbv;refine uF rfl ?_;cbv;refine uF rfl ?_;cbv;refine yU hnM9 (.refl _) rfl okA u5 okR rfl rfl rfl rfl rfl rfl rfl rfl ?_;cbv
 (refine rC ?_;cbv)
 exact yX rfl
theorem zYK {tru:Bool}(h:tru=true):zG 34 [] (.bool (fun _=>tru)):=by rw[h];exact yAG
theorem zYJ (us:List A)(ha:Asz (2^32) us):zG 35 [alv us] (.bool (fun _=>cS us 5)):=by
 have cs:=zS9 us 5 ha;generalize cS us 5=b at *
 refine sF Tryz.f35 ?_;cbv;refine cA cs ?_;cbv
 (refine rC ?_;cbv)
 exact lR
abbrev slt (t:WT):PV:=.agg [.int .i64 (fun _=>t.st),.bool (fun _=>t.z.neg),nat t.z.num,nat t.z.den,qlv t.pt,qlv t.du,qlv t.ry,ilv t.bas,.int .i64 (fun _=>t.pv)]
def Sod (v:Nat) (fs:List F) (ob:F) (K:Nat) (t:WT):Prop:=∃ s,Sgd v fs ob K s/\t=WT.of (fs.map fA) s
theorem Sod.good {v K:Nat}{fs:List F}{ob:F}{t:WT}(h:Sod v fs ob K t):WG v fs ob K t:=by obtain⟨s,hs,rfl⟩:=h;exact hs.good
theorem WG.slv {v k n K:Nat}{fs:List F}{ob:F}{t:WT}(h:WG v fs ob K t)(hp:PX v fs ob k n)(hK:1953125*k<=K):∃ t',Sod v fs ob K t' /\ Sound 37 [.ptr 1000000 0] [(1000000,wB 1000001 v (fA ob).ts (fA ob).c t),(1000001,wR t)] [] (.tup [slt t',.int .i64 (fun _=>0)]) [(1000000,wB 1000001 v (fA ob).ts (fA ob).c t'),(1000001,wR t')] []:=by obtain⟨s,hs,c⟩:=h.solve hp hK;exact⟨WT.of (fs.map fA) s,⟨s,hs,rfl⟩,c⟩
theorem New.of {P:Prg}{v:Nat}{fs:List F}{ob:F}(e:P=prg v fs ob)(hp:PX v fs ob 2 8):Sound 36 [pgv P] [] [] (.tup [.ptr 10 0,.int .i64 (fun _=>0)]) [] [(10,wB 8 P.v P.ob.ts P.ob.c (WT.new P.rows)),(8,wR (WT.new P.rows))]:=by subst e;exact zWN (prg v fs ob) (hp.sz.mono (by decide)) (by show (fs.map fA).length<_;rw[y8];have:=hp.len;omega) hp.valid
theorem zPG {rows:List A}(h:cS rows 5=true):rows.length<=5/\∀ a,a∈rows->a.small=true:=by unfold cS at h;simp only[y9,decide_eq_true_eq,f8] at h;exact⟨by omega,h.2⟩
def addA (v:Int) (us:List A) (a:A):List A:=if a.valid v=true then us++[a] else us
def addI (v:Int) (a:A):Int:=if a.valid v=true then 0 else 1
theorem zQM (v:Int)(us:List A)(ob a:A)(ha:a.sz (2^32))(hu:us.length<4096):Sound 39 [.ptr 1000000 0,av a] [(1000000,wB 31 v ob.ts ob.c (WT.new us))] [(31,wR (WT.new us))] (.int .i64 (fun _=>addI v a)) [(1000000,wB 31 v ob.ts ob.c (WT.new (addA v us a)))] [(31,wR (WT.new (addA v us a)))] /\ zG 38 [pgv ⟨v,us,ob⟩,av a] (.tup [pgv ⟨v,addA v us a,ob⟩,.int .i64 (fun _=>addI v a)]):=by
 unfold addA addI;by_cases hv:a.valid v=true;{rw[if_pos hv,if_pos hv];exact⟨zEW a v us ob.ts ob.c false 0 ⟨false,[],[]⟩ [] [] [] [] 0 ha hv hu (by simp),zZ6 ⟨v,us,ob⟩ a ha hv hu⟩}
 ·(rw[if_neg hv,if_neg hv];have hv':a.valid v=false:=by cases e:a.valid v with|true=>exact absurd e hv|false=>rfl);exact⟨zS4 a v us ob.ts ob.c false 0 ⟨false,[],[]⟩ [] [] [] [] 0 ha hv',zZ5 ⟨v,us,ob⟩ a ha hv'⟩
theorem PX.psm {v:Nat}{fs:List F}{ob:F}(h:PX v fs ob 2 8):PSm v fs ob:=⟨by have:=h.lv;omega,h.sz.mono (by decide),h.valid,fun f hf=>⟨(h.rows f hf).1.mono (by decide) (by decide),(h.rows f hf).2⟩,⟨h.obj.1.mono (by decide) (by decide),h.obj.2⟩,by have:=h.len;omega⟩
theorem zSP {v:Nat}{fs:List F}{a:A}:addA v (fs.map fA) a=(addF v fs a).map fA:=by unfold addA addF;split;{rename_i hv;rw[gL];show _++[a]=_++[fA a.f];rw[(dO hv).1]};{rfl}
theorem Sod.says {v:Nat}{fs:List F}{ob:F}{t:WT}(h:Sod v fs ob 3906250 t)(hp:PX v fs ob 2 8)(hl:fs.length<=12):zG 23 [pgv (prg v fs ob),slt t] (.bool (fun _=>true))/\zG 21 [pgv (prg v fs ob),slt t] (.bool (fun _=>true)):=by obtain⟨s,hs,rfl⟩:=h;have:=hp.lv;exact⟨zYC hp.psm hs.ok (m:=3906250) (by decide) oM hs.fit,zYE oM oM hp.rows hp.obj hp.k1 (by decide) (by decide) hs.ok (hs.fit.val.mono (by decide))⟩
theorem zYI (P:Prg)(rows:List A)(h:P.bk (2^20))(hr:(∀ a,a∈rows->a.bk (2^20))/\rows.length<=2^20):zG 12 [pgv P,alv rows] (.bool (fun _=>true)):=by
 have hz:=h.sz (m:=2^32) (zV _) (by decide);have hrz:Asz (2^32) rows:=⟨by omega,fun a ha=>(hr.1 a ha).sz (zV _) (by decide)⟩;have cv:=zYD P hz;have cf:=zYJ rows hrz;obtain⟨tru,htru⟩:∃ b,b=true:=⟨_,rfl⟩;have ca:=zYK htru;have facts:P.few=true->cS rows 5=true->∃ J:Nat->List A->WT->Prop,rows.length<=5 /\
   Sound 36 [pgv P] [] [] (.tup [.ptr 10 0,.int .i64 (fun _=>0)]) [] [(10,wB 8 P.v P.ob.ts P.ob.c (WT.new P.rows)),(8,wR (WT.new P.rows))]/\J 0 P.rows (WT.new P.rows) /\
   ∀ (i:Nat) us t,J i us t->i<=rows.length->∃ t1,Sound 37 [.ptr 1000000 0] [(1000000,wB 1000001 P.v P.ob.ts P.ob.c t),(1000001,wR t)] [] (.tup [slt t1,.int .i64 (fun _=>0)]) [(1000000,wB 1000001 P.v P.ob.ts P.ob.c t1),(1000001,wR t1)] [] /\
    zG 23 [pgv ⟨P.v,us,P.ob⟩,slt t1] (.bool (fun _=>tru))/\zG 21 [pgv ⟨P.v,us,P.ob⟩,slt t1] (.bool (fun _=>tru)) /\
    ∀ a,rows[i]?=some a->∃ us' t2 e,Sound 39 [.ptr 1000000 0,av a] [(1000000,wB 31 P.v P.ob.ts P.ob.c t1)] [(31,wR t1)] (.int .i64 (fun _=>e)) [(1000000,wB 31 P.v P.ob.ts P.ob.c t2)] [(31,wR t2)] /\
     zG 38 [pgv ⟨P.v,us,P.ob⟩,av a] (.tup [pgv ⟨P.v,us',P.ob⟩,.int .i64 (fun _=>e)])/\J (i+1) us' t2:=fun e1 e2=>by
  (unfold Prg.few at e1;simp only[y9,decide_eq_true_eq] at e1;obtain⟨⟨e1,e3⟩,e4⟩:=e1;obtain⟨v,fs,ob,rfl,hl,hw⟩:=zPF e1;have e5:fs.length<=7:=by have:(((fs.map fA).length:Nat):Int)<=7:=e4;rw[y8] at this;omega);obtain⟨r1,r2⟩:=zPG e2;have hp:=hw.px;have hpa:=fun (i:Nat) (hi:i<=rows.length)=>hp.acc (rows:=rows) r2 oM (i:=i) hi;refine⟨fun i us t=>us=(accF v fs rows i).map fA/\WG v (accF v fs rows i) ob 3906250 t,r1,New.of rfl hp,⟨rfl,WG.new⟩,fun i us t hj hi=>?_⟩;obtain⟨hu,hj⟩:=hj;subst hu;have h1:=zEK (v:=v) (fs:=fs) (rows:=rows) (i:=i) hi;obtain⟨t1,g1,c1⟩:=hj.slv (hpa i hi) (by decide);obtain⟨p1,p2⟩:=g1.says (hpa i hi) oM;rw[htru];refine⟨t1,c1,p1,p2,fun a ha=>?_⟩;have hsz:=hrz.sz a (zZ ha);obtain⟨t2,g2,c2⟩:=g1.good.add (by decide) a hsz oM;have c3:=(zQM v ((accF v fs rows i).map fA) (fA ob) a hsz (by rw[y8];omega)).2;rw[zSP] at c3;rw[<-zAT ha] at g2 c3;exact⟨_,t2,_,c2,c3,rfl,g2⟩
 generalize P.few=b at *
 generalize cS rows 5=b2 at *
 clear hz hrz h hr;obtain⟨n,us,ob⟩:=P;obtain⟨ots,oc⟩:=ob;refine sF Tryz.f12 ?_;cbv;refine cA ca ?_;cbv;refine z6 (fun e=>?_) (fun e=>by rw[htru] at e;cases e);cbv;refine cA cv ?_;cbv;refine xK (fun e1=>?_) (fun e1=>?_)
 rotate_left
 ·cbv
  (refine rC ?_;cbv)
  exact xQ rfl
 cbv;refine cA cf ?_;cbv;refine z6 (fun e2=>?_) (fun e2=>?_)
 rotate_left
 ·cbv
  (refine rC ?_;cbv)
  exact xQ rfl
 obtain⟨J,r1,k0,j0,st⟩:=facts e1 e2;clear facts cv cf ca;cbv;refine yU zUD (.refl _) rfl okA k0 (by exact trivial) rfl rfl rfl rfl rfl rfl rfl rfl ?_;cbv;refine uF rfl ?_;cbv;refine sX rfl ?_;cbv;refine zX (σ:=Nat×List A×WT) (fun s=>⟨[(1,alv rows),(2,.ptr 2 0),(5,.ptr 301 0),(7,.int .i64 (fun _=>(s.1:Int)))],[(2,.box [.int .i64 (fun _=>n),alv s.2.1,tsv ots,.bool (fun _=>oc.neg),nat oc.num,nat oc.den]),(301,wB 302 n ots oc s.2.2),(302,wR s.2.2)]⟩)
  (fun s=>s.1<=rows.length+1/\(s.1<=rows.length->J s.1 s.2.1 s.2.2)) (fun s=>rows.length+1-s.1) (0,us,WT.new us) ⟨wH _,fun _=>j0⟩ (wkW) ?_
 intro s hs;obtain⟨i,us,t⟩:=s;obtain⟨hi,hj⟩:=hs;dsimp only at hi hj;cbv;refine zD (fun h5=>?_) (fun h5=>?_)
 ·(have hle:i<=rows.length:=by rw[zK] at h5;(try dsimp only [zI] at *);omega);obtain⟨t1,q1,q2,q3,q4⟩:=st i us t (hj hle) hle
  have q2':zG 23 [.agg [.int .i64 (fun _=>n),alv us,tsv ots,.bool (fun _=>oc.neg),nat oc.num,nat oc.den],slt t1] (.bool (fun _=>tru)):=q2;have q3':zG 21 [.agg [.int .i64 (fun _=>n),alv us,tsv ots,.bool (fun _=>oc.neg),nat oc.num,nat oc.den],slt t1] (.bool (fun _=>tru)):=q3;clear st q2 q3;cbv;refine yU zUD (.refl _) rfl okA q1 okR rfl rfl rfl rfl rfl rfl rfl rfl ?_;cbv;refine uF rfl ?_;cbv;refine cA q2' ?_;cbv;refine xK (fun e=>?_) (fun e=>by rw[htru] at e;cases e);cbv;refine cA q3' ?_;cbv;refine z6 (fun e=>?_) (fun e=>by rw[htru] at e;cases e);cbv;refine zD (fun h6=>?_) (fun h6=>?_)
  rotate_left
  ·(have hge:¬i<rows.length:=by rw[zK] at h6;(try dsimp only [zI] at *);omega);cbv
   exact⟨zC om om,(i+1,us,t1),⟨by show i+1<=rows.length+1;omega,fun w=>absurd (show i+1<=rows.length from w) oM⟩,by show rows.length+1-(i+1)<rows.length+1-i;omega,wkW⟩
  have hlt:=j8 h6;obtain⟨a,ha⟩:=kT hlt;obtain⟨us',t2,e,q5,q6,q7⟩:=q4 a ha;obtain⟨ats,acc⟩:=a;have q6':zG 38 [.agg [.int .i64 (fun _=>n),alv us,tsv ots,.bool (fun _=>oc.neg),nat oc.num,nat oc.den],.agg [tsv ats,.bool (fun _=>acc.neg),nat acc.num,nat acc.den]] (.tup [.agg [.int .i64 (fun _=>n),alv us',tsv ots,.bool (fun _=>oc.neg),nat oc.num,nat oc.den],.int .i64 (fun _=>e)]):=q6;clear q4 q6;cbv;refine pP (σ:=Unit) (fun _=>⟨[(1,alv rows),(2,.ptr 2 0),(5,.ptr 301 0),(7,.int .i64 (fun _=>(i:Int))),(10,.ptr 10 0),(11,.int .i64 (fun _=>e))],[(2,.box [.int .i64 (fun _=>n),alv us,tsv ots,.bool (fun _=>oc.neg),nat oc.num,nat oc.den]),(301,wB 302 n ots oc t1),(302,wR t1),(10,.box [.int .i64 (fun _=>n),alv us',tsv ots,.bool (fun _=>oc.neg),nat oc.num,nat oc.den])]⟩) (fun _=>True)
   (wkW (ps':=⟨[(1,alv rows),(2,.ptr 2 0),(5,.ptr 301 0),(7,.int .i64 (fun _=>(i:Int)))],[(2,.box [.int .i64 (fun _=>n),alv us,tsv ots,.bool (fun _=>oc.neg),nat oc.num,nat oc.den]),(301,wB 302 n ots oc t1),(302,wR t1)]⟩)) (by cbv) ?_ ?_
  ·cbv
   repeat' first
    |exact trivial
    |(refine xC ha gU dG ?_;cbv)
    |(refine wL rfl okA (q6') rfl ?_;cbv)
    |exact⟨(),trivial,wkW⟩
    |apply zN
   done
  intro _ _;cbv;refine xC ha gU dG ?_;cbv;refine yU zUD (.refl _) rfl okA q5 okR rfl rfl rfl rfl rfl rfl rfl rfl ?_;cbv;refine zV8 rfl ?_;cbv;exact⟨zC om om,(i+1,us',t2),⟨by show i+1<=rows.length+1;omega,fun _=>q7⟩,by show rows.length+1-(i+1)<rows.length+1-i;omega,wkW⟩
 ·cbv
  (refine rC ?_;cbv)
  exact xQ rfl
end Go.Proofs.YtfainocfaddbdaaGreat
