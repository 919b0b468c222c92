/- A part of the proof: RwA, RwB, UtA, RvA, RvB. -/
import Derived.Test.YtaeaffgjdcigoaaGreatC21
import Derived.Test.YtaeaffgjdcigoaaGreatC20
set_option linter.all false
namespace Go.Proofs.YtaeaffgjdcigoaaGreat
open Go
set_option maxRecDepth 100000
set_option maxHeartbeats 2000000
abbrev R0:R:=⟨false,[],[]⟩
theorem zVE (x : R) : zE 211 [rv x] (.bool (fun _ => decide (x = R0))) := by
  refine sF Tryz.f211 ?_
  obtain ⟨a, b, c⟩ := x
  have h0 : ∀ l : List UInt32, ((lm l).length : Int) = 0 ↔ l = [] := fun l => by rw [zH]; constructor
                                                                                 · intro h; exact kR oM
                                                                                 · intro h; rw [h]; rfl
  generalize hr : decide ((⟨a, b, c⟩ : R) = R0) = r
  have hr0 : r = (!a && (decide (((lm b).length : Int) = 0) && decide (((lm c).length : Int) = 0))) := by
    rw [← hr, bQ]
    simp only [decide_eq_true_eq, R.mk.injEq, yT, zHF, h0]
  clear hr
  cbv
  refine z7 (fun e => ?_) (fun e => ?_)
  · subst e
    cbv
    (refine rC ?_; cbv)
    exact zM (by rw [hr0]; rfl)
  · subst e
    cbv
    refine zQ (fun e => ?_) (fun e => ?_)
    · rw [decide_eq_true e] at hr0
      cbv
      (refine rC ?_; cbv)
      exact zV (by rw [hr0]; rfl)
    · rw [decide_eq_false e] at hr0
      cbv
      (refine rC ?_; cbv)
      exact zM (by rw [hr0]; rfl)
theorem zD1 (q:Qry)(d:Dec)(hd:d.x.sz (2^36)):zE 176 [qv q,dv d] (.bool (fun _=>d.fits q)):=by
 refine sF Tryz.f176 ?_;have cz:=zVE d.x;have cv:=s103 d.x hd;have hr:d.fits q=if d.k=1\/d.k=2 then decide (0<=d.i/\d.i<q.g.us.length)&&decide (d.x=R0) else if d.k=3\/d.k=4 then decide (0<=d.i/\d.i<q.g.n)&&d.x.ok else false:=rfl
 generalize d.fits q=r at *
 generalize decide (d.x=R0)=z at *
 generalize d.x.ok=ok at *
 obtain⟨⟨n,us,os⟩,⟨lo,hi,rows⟩,⟨ts,c1,c2,c3⟩⟩:=q;obtain⟨k,i,x1,x2,x3⟩:=d;simp only at hr;have u1:∀ (hk:k=1\/k=2),(0<=i->i<us.length->r=z)/\(¬(0<=i/\i<us.length)->r=false):=fun hk=>by rw[if_pos hk] at hr;exact⟨fun h1 h2=>by rw[hr,decide_eq_true ⟨h1,h2⟩,yU],fun h=>by rw[hr,decide_eq_false h];rfl⟩
 have u2:∀ (hk:k=3\/k=4),(0<=i->i<n->r=ok)/\(¬(0<=i/\i<n)->r=false):=fun hk=>by rw[if_neg oM,if_pos hk] at hr;exact⟨fun h1 h2=>by rw[hr,decide_eq_true ⟨h1,h2⟩,yU],fun h=>by rw[hr,decide_eq_false h];rfl⟩
 have u3:¬(k=1\/k=2\/k=3\/k=4)->r=false:=fun hk=>by rw[if_neg oM,if_neg oM] at hr;exact hr
 clear hr;cbv;have hk:k=1\/k=2\/k=3\/k=4\/(k<=0\/5<=k):=by omega
 rcases hk with rfl|rfl|rfl|rfl|hk
 ·obtain⟨v1,v2⟩:=u1 (.inl rfl);clear u1 u2 u3;refine w7 rfl ?_;cbv;refine w7 rfl ?_;cbv;refine zQ (fun e1=>?_) (fun e1=>?_)
  ·cbv;refine zQ (fun e2=>?_) (fun e2=>?_)
   ·cbv;refine cA cz ?_;cbv
    (refine rC ?_;cbv)
    exact zV (by rw[v1 om (by rw[zA] at e2;(try dsimp only [zF] at *);omega)])
   ·cbv
    (refine rC ?_;cbv)
    exact zM (v2 (fun h=>by rw[zA] at e2;(try dsimp only [zF] at *);omega))
  ·cbv
   (refine rC ?_;cbv)
   exact zM (v2 (fun h=>by (try dsimp only [zF] at *);omega))
 ·obtain⟨v1,v2⟩:=u1 (.inr rfl);clear u1 u2 u3;refine yB (by simp) ?_;cbv;refine w7 rfl ?_;cbv;refine zQ (fun e1=>?_) (fun e1=>?_)
  ·cbv;refine zQ (fun e2=>?_) (fun e2=>?_)
   ·cbv;refine cA cz ?_;cbv
    (refine rC ?_;cbv)
    exact zV (by rw[v1 om (by rw[zA] at e2;(try dsimp only [zF] at *);omega)])
   ·cbv
    (refine rC ?_;cbv)
    exact zM (v2 (fun h=>by rw[zA] at e2;(try dsimp only [zF] at *);omega))
  ·cbv
   (refine rC ?_;cbv)
   exact zM (v2 (fun h=>by (try dsimp only [zF] at *);omega))
 ·obtain⟨v1,v2⟩:=u2 (.inl rfl);clear u1 u2 u3;refine yB (by simp) ?_;cbv;refine yB (by simp) ?_;cbv;refine w7 rfl ?_;cbv;refine w7 rfl ?_;cbv;refine zQ (fun e1=>?_) (fun e1=>?_)
  ·cbv;refine zQ (fun e2=>?_) (fun e2=>?_)
   ·cbv;refine cA cv ?_;cbv
    (refine rC ?_;cbv)
    exact zV (by rw[v1 om om])
   ·cbv
    (refine rC ?_;cbv)
    exact zM (v2 (fun h=>by (try dsimp only [zF] at *);omega))
  ·cbv
   (refine rC ?_;cbv)
   exact zM (v2 (fun h=>by (try dsimp only [zF] at *);omega))
 ·obtain⟨v1,v2⟩:=u2 (.inr rfl);clear u1 u2 u3;refine yB (by simp) ?_;cbv;refine yB (by simp) ?_;cbv;refine yB (by simp) ?_;cbv;refine w7 rfl ?_;cbv;refine zQ (fun e1=>?_) (fun e1=>?_)
  ·cbv;refine zQ (fun e2=>?_) (fun e2=>?_)
   ·cbv;refine cA cv ?_;cbv
    (refine rC ?_;cbv)
    exact zV (by rw[v1 om om])
   ·cbv
    (refine rC ?_;cbv)
    exact zM (v2 (fun h=>by (try dsimp only [zF] at *);omega))
  ·cbv
   (refine rC ?_;cbv)
   exact zM (v2 (fun h=>by (try dsimp only [zF] at *);omega))
 ·have hr:=u3 oM;clear u1 u2 u3;refine yB (by dsimp only;omega) ?_;cbv;refine yB (by dsimp only;omega) ?_;cbv;refine yB (by dsimp only;omega) ?_;cbv;refine yB (by dsimp only;omega) ?_;cbv
  (refine rC ?_;cbv)
  exact zM hr
theorem zNZ (q:Qry)(d:Dec)(hq:q.sz (2^34))(hd:d.x.sz (2^36)):zE 122 [qv q,dv d] (.bool (fun _=>q.valid&&d.fits q)):=by
 refine sF Tryz.f122 ?_;have c1:=tU q hq;have c2:=zD1 q d hd;generalize q.valid=b1 at *
 generalize d.fits q=b2 at *
 obtain⟨⟨n,us,os⟩,⟨lo,hi,rows⟩,⟨ts,c1',c2',c3⟩⟩:=q;obtain⟨k,i,x1,x2,x3⟩:=d;cbv;refine cA c1 ?_;cbv;refine z7 (fun e=>?_) (fun e=>?_)
 ·subst e;cbv;refine cA c2 ?_;cbv
  (refine rC ?_;cbv)
  exact zV rfl
 ·subst e;cbv
  (refine rC ?_;cbv)
  exact zM rfl
def Row.plain (r:Row):Bool:=decide (r.lo=0)&&decide (r.hi=0)
theorem zJT (r:Row):zE 290 [rwv r] (.bool (fun _=>r.plain)):=by
 refine sF Tryz.f290 ?_;have hr:r.plain=(decide (r.lo=0)&&decide (r.hi=0)):=rfl;generalize r.plain=p at *
 obtain⟨k,i,lo,hi⟩:=r;cbv;refine zQ (fun e=>?_) (fun e=>?_)
 ·simp only at hr;rw[decide_eq_true e,yU] at hr;cbv
  (refine rC ?_;cbv)
  exact zV hr.symm
 ·simp only at hr;rw[decide_eq_false e] at hr;cbv
  (refine rC ?_;cbv)
  exact zM hr
def F.var (v:Int):F:=⟨[(v,1)],0⟩
def F.num (q:Rat):F:=⟨[],q⟩
theorem zIV (v:Int):zE 291 [.int .i64 (fun _=>v)] (fv (F.var v)):=by
 refine sF Tryz.f291 ?_;have c1:=s104 1 (by decide) (by decide);have e:fv (F.var v)=.agg [.sl (fun _=>[wB [.int .i64 (fun _=>v),.bool (fun _=>(zJ ((1:Int):Rat)).neg),nat (zJ ((1:Int):Rat)).num,nat (zJ ((1:Int):Rat)).den]]),.bool (fun _=>R0.neg),nat R0.num,nat R0.den]:=by show av ⟨[(v,zJ 1)],zJ 0⟩=_;rw[u6];rfl
 rw[e];clear e;generalize zJ ((1:Int):Rat)=o at *
 obtain⟨o1,o2,o3⟩:=o;cbv;refine cA c1 ?_;cbv
 (refine rC ?_;cbv)
 exact⟨zR rfl,zM rfl,yW rfl,yW rfl,trivial⟩
theorem zBQ (x:R)(hx:x.sz (2^36)):zE 292 [rv x] (fv (F.num x.q)):=by
 refine sF Tryz.f292 ?_;have c1:=s161 x hx;show wp _ _ (dK _ (.agg [tsv [],.bool (fun _=>(zJ x.q).neg),nat (zJ x.q).num,nat (zJ x.q).den]) [] []);generalize zJ x.q=w at *
 obtain⟨w1,w2,w3⟩:=w;obtain⟨x1,x2,x3⟩:=x;cbv;refine cA c1 ?_;cbv
 (refine rC ?_;cbv)
 exact okA
theorem zD0 (f:A)(hf:f.sz (2^33)):zE 293 [av f] (fv (f.f.scale (-1))):=by
 refine sF Tryz.f293 ?_;have c1:=s104 (-1) (by decide) (by decide);have c2:=tX f (zJ ((-1:Int):Rat)) hf ((oB (-1) (by decide) (by decide)).mono (by decide));rw[z6] at c2;have e:f.f.scale ((-1:Int):Rat)=f.f.scale (-1):=rfl;rw[e] at c2;generalize fA (f.f.scale (-1))=W at *
 generalize zJ ((-1:Int):Rat)=o at *
 obtain⟨ft,f1,f2,f3⟩:=f;obtain⟨wt,w1,w2,w3⟩:=W;cbv;refine zN 3 (by cbv) ?_;cbv;refine dA c1 ?_;cbv;refine dA c2 ?_;cbv
 (refine rC ?_;cbv)
 exact okA
def Scp.lem (s:Scp) (n unit:Int) (up:Bool):Option Rat :=
 if 1<=n/\n<=s.lems.length then
  match s.lems[(n-1).toNat]? with
  |some m=>if m.u=unit/\m.up=up then some m.v.q else none| none=>none
 else none
theorem zS7 {s:Scp}{n unit:Int}{up:Bool}(h:¬(1<=n/\n<=s.lems.length)):s.lem n unit up=none:=if_neg h
theorem zM8 {s:Scp}{n unit:Int}{up:Bool}{m:Lem}(h:1<=n)(h2:n<=s.lems.length)(hm:s.lems[(n-1).toNat]?=some m):s.lem n unit up=if m.u=unit/\m.up=up then some m.v.q else none:=by unfold Scp.lem;rw[if_pos ⟨h,h2⟩,hm]
theorem zSQ (s:Scp)(n unit:Int)(up:Bool)(hs:Lsz (2^36) s.lems):zE 294 [sv s,.int .i64 (fun _=>n),.int .i64 (fun _=>unit),.bool (fun _=>up)] (.tup [rv (zJ ((s.lem n unit up).getD 0)),.bool (fun _=>(s.lem n unit up).isSome)]):=by
 refine sF Tryz.f294 ?_;have hno:¬(1<=n/\n<=s.lems.length)->s.lem n unit up=none:=fun h=>zS7 h;have hat:∀ m,1<=n->n<=s.lems.length->s.lems[(n-1).toNat]?=some m->s.lem n unit up=if m.u=unit/\m.up=up then some m.v.q else none:=fun m h1 h2 h3=>zM8 h1 h2 h3
 have hsl:=hs.len;have hss:=hs.sz;generalize s.lem n unit up=o at *
 obtain⟨⟨⟨gn,us,os⟩,⟨lo,hi,rows⟩,⟨ts,c1,c2,c3⟩⟩,path,lems⟩:=s;simp only at hno hat hsl hss;have fin:∀ (W:R) (b:Bool),o=none->W=zJ (o.getD 0)/\b=o.isSome->W=R0/\b=false:=fun W b h1 h2=>by rw[h1] at h2;exact⟨by rw[h2.1];exact u6,h2.2⟩
 obtain⟨W,hW⟩:∃ W,W=zJ (o.getD 0):=⟨_,rfl⟩;obtain⟨b,hb⟩:∃ b,b=o.isSome:=⟨_,rfl⟩;rw[<-hW,<-hb];have fin':o=none->W=R0/\b=false:=fun h=>fin W b h ⟨hW,hb⟩;have fin2:∀ q,o=some q->W=zJ q/\b=true:=fun q h=>by rw[h] at hW hb;exact⟨hW,hb⟩
 clear fin hW hb;obtain⟨W1,W2,W3⟩:=W;have fin3:o=none->W1=false/\W2=[]/\W3=[]/\b=false:=fun h=>by obtain⟨h1,h2⟩:=fin' h;simp only[R.mk.injEq] at h1;exact⟨h1.1,h1.2.1,h1.2.2,h2⟩
 clear fin';cbv;refine zQ (fun e1=>?_) (fun e1=>?_)
 ·cbv;obtain⟨g1,g2,g3,g4⟩:=fin3 (hno oM);subst g1 g2 g3 g4
  (refine rC ?_;cbv)
  exact okA
 cbv;refine zQ (fun e2=>?_) (fun e2=>?_)
 ·cbv;obtain⟨g1,g2,g3,g4⟩:=fin3 (hno (by rw[zA] at e2;(try dsimp only [zF] at *);omega));subst g1 g2 g3 g4
  (refine rC ?_;cbv)
  exact okA
 cbv;rw[zA] at e2;obtain⟨m,hm⟩:∃ m,lems[(n-1).toNat]?=some m:=zT om;have hat':=hat m oM om hm;have hms:=hss m (yA hm);have cc:=s161 m.v hms;have idx:∀ {K:List PV->Prop},K (lc m)->IdxOk 6 (fun _=>enc lc lems) (fun _=>n-1) K:=fun hK=>xU (l:=lems) (n-1).toNat oM om xX wJ (fun m' hm'=>by rw[hm] at hm';cases hm';exact hK);generalize hq:m.v.q=q at *
 obtain⟨mu,mup,⟨v1,v2,v3⟩,mpf⟩:=m;simp only at hat';clear hat hno hq;generalize hwq:zJ q=wq at *
 refine⟨zD om om,idx ?_⟩;cbv;refine zQ (fun e3=>?_) (fun e3=>?_)
 ·cbv;refine⟨zD om om,idx ?_⟩;cbv;refine zG (fun e4=>?_) (fun e4=>?_)
  ·cbv;obtain⟨g1,g2⟩:=fin2 q (by rw[hat',if_pos ⟨e3,e4⟩]);rw[hwq] at g1;subst g1 g2;refine⟨zD om om,idx ?_⟩;cbv;refine cA cc ?_;cbv
   (refine rC ?_;cbv)
   exact okA
  ·cbv;obtain⟨g1,g2,g3,g4⟩:=fin3 (by rw[hat',if_neg (fun h=>e4 h.2)]);subst g1 g2 g3 g4
   (refine rC ?_;cbv)
   exact okA
 ·cbv;obtain⟨g1,g2,g3,g4⟩:=fin3 (by rw[hat',if_neg (fun h=>e3 h.1)]);subst g1 g2 g3 g4
  (refine rC ?_;cbv)
  exact okA
def Scp.dcd (s:Scp) (kind unit:Int):Bool:=s.path.any fun d=>decide (d.k=kind)&&(decide (d.i=unit)&&d.fits s.q)
theorem zVG (s:Scp)(kind unit:Int)(d:Dec)(hd:d.x.sz (2^36)):zE 311 [.agg (dc d),.dptr [.int .i64 (fun _=>kind)] 0,.dptr [.int .i64 (fun _=>unit)] 0,.dptr (sc s) 0] (.bool (fun _=>decide (d.k=kind)&&(decide (d.i=unit)&&d.fits s.q))):=by
 refine sF Tryz.f311 ?_;have cf:=zD1 s.q d hd;generalize d.fits s.q=ft at *
 obtain⟨⟨⟨gn,us,os⟩,⟨lo,hi,rows⟩,⟨ts,c1,c2,c3⟩⟩,path,lems⟩:=s;obtain⟨k,i,x1,x2,x3⟩:=d;generalize hr:(decide (k=kind)&&(decide (i=unit)&&ft))=r;cbv;refine zQ (fun e1=>?_) (fun e1=>?_)
 ·rw[decide_eq_true e1,yU] at hr;cbv;refine zQ (fun e2=>?_) (fun e2=>?_)
  ·rw[decide_eq_true e2,yU] at hr;cbv;refine cA cf ?_;cbv
   (refine rC ?_;cbv)
   exact zV hr
  ·rw[decide_eq_false e2] at hr;cbv
   (refine rC ?_;cbv)
   exact zM hr.symm
 ·rw[decide_eq_false e1] at hr;cbv
  (refine rC ?_;cbv)
  exact zM hr.symm
theorem zSR (s:Scp)(kind unit:Int)(hs:Dsz (2^36) s.path):zE 310 [sv s,.int .i64 (fun _=>kind),.int .i64 (fun _=>unit)] (.bool (fun _=>s.dcd kind unit)):=by
 refine sF Tryz.f310 ?_;have c1:=zWU (fun d=>decide (d.k=kind)&&(decide (d.i=unit)&&d.fits s.q)) s.path (bC hs.len (by decide)) 311 [.dptr [.int .i64 (fun _=>kind)] 0,.dptr [.int .i64 (fun _=>unit)] 0,.dptr (sc s) 0] (fun d hd=>zVG s kind unit d (hs.sz d hd));have e:(s.path.any fun d=>decide (d.k=kind)&&(decide (d.i=unit)&&d.fits s.q))=s.dcd kind unit:=rfl;rw[e] at c1;generalize s.dcd kind unit=r at *
 obtain⟨⟨⟨gn,us,os⟩,⟨lo,hi,rows⟩,⟨ts,c1',c2,c3⟩⟩,path,lems⟩:=s;cbv;refine kQ (.trans (.frz 3 rfl rfl (by repeat' first|exact trivial|apply And.intro) (by repeat' first|exact trivial|apply And.intro)) (.trans (.frz 4 rfl rfl (by repeat' first|exact trivial|apply And.intro) (by repeat' first|exact trivial|apply And.intro)) (.frz 5 rfl rfl (by repeat' first|exact trivial|apply And.intro) (by repeat' first|exact trivial|apply And.intro)))) rfl (by exact⟨lR,⟨rfl,lR,lR,lR,trivial⟩,trivial⟩) c1 rfl ?_;cbv
 (refine rC ?_;cbv)
 exact lR
abbrev usv (s:Scp) (r:Row) (v p:A) (l u:R) (low top:Bool):PV:=.agg [.int .i64 (fun _=>s.q.g.n),alv s.q.g.us,alv s.q.g.os,rlv s.q.r.lo,rlv s.q.r.hi,alv s.q.r.rows,tsv s.q.goal.ts,.bool (fun _=>s.q.goal.c.neg),nat s.q.goal.c.num,nat s.q.goal.c.den,dlv s.path,llv s.lems,
 .int .i64 (fun _=>r.k),.int .i64 (fun _=>r.i),.int .i64 (fun _=>r.lo),.int .i64 (fun _=>r.hi),tsv v.ts,.bool (fun _=>v.c.neg),nat v.c.num,nat v.c.den,tsv p.ts,.bool (fun _=>p.c.neg),nat p.c.num,nat p.c.den,
 .bool (fun _=>l.neg),nat l.num,nat l.den,.bool (fun _=>u.neg),nat u.num,nat u.den,.bool (fun _=>low),.bool (fun _=>top)]
def onB (s:Scp) (r:Row) (l:Rat) (low:Bool):Bool:=decide (r.hi=0)&&((decide (r.lo=0)&&s.dcd 1 r.i) || (low&&decide (0<=z4 l)))
def offB (s:Scp) (r:Row) (u:Rat) (top:Bool):Bool:=decide (r.lo=0)&&((decide (r.hi=0)&&s.dcd 2 r.i) || (top&&decide (z4 u<=0)))
theorem yAA (s:Scp)(r:Row)(v p:A)(l u:R)(low top:Bool)(hs:Dsz (2^36) s.path)(hx:l.num.length<2^40):zE 295 [usv s r v p l u low top] (.bool (fun _=>onB s r l.q low)):=by
 refine sF Tryz.f295 ?_;have cd:=zSR s 1 r.i hs;have cs:=s86 l hx;generalize hres:onB s r l.q low=res;have hr:res=(decide (r.hi=0)&&((decide (r.lo=0)&&s.dcd 1 r.i) || (low&&decide (0<=z4 l.q)))):=hres.symm;clear hres hs;generalize s.dcd 1 r.i=dd at *
 generalize z4 l.q=sg at *
 obtain⟨⟨⟨gn,us,os⟩,⟨lo,hi,rows⟩,⟨ts,c1,c2,c3⟩⟩,path,lems⟩:=s;obtain⟨k,i,rlo,rhi⟩:=r;obtain⟨vt,v1,v2,v3⟩:=v;obtain⟨pt,p1,p2,p3⟩:=p;obtain⟨l1,l2,l3⟩:=l;obtain⟨u1,u2,u3⟩:=u;simp only at hr;cbv;refine zM3 ?_;cbv;refine zQ (fun e1=>?_) (fun e1=>?_)
 ·rw[decide_eq_true e1,yU] at hr;cbv;refine zQ (fun e2=>?_) (fun e2=>?_)
  ·rw[decide_eq_true e2,yU] at hr;cbv;refine cA cd ?_;cbv;refine z7 (fun e3=>?_) (fun e3=>?_)
   ·rw[e3,zLF] at hr;cbv
    (refine rC ?_;cbv)
    exact yN hr
   ·rw[e3,sI] at hr;cbv;refine z7 (fun e4=>?_) (fun e4=>?_)
    ·rw[e4,yU] at hr;cbv;refine cA cs ?_;cbv
     (refine rC ?_;cbv)
     exact zV hr.symm
    ·rw[e4,kJ] at hr;cbv
     (refine rC ?_;cbv)
     exact zM hr
  ·rw[decide_eq_false e2,kJ,sI] at hr;cbv;refine z7 (fun e4=>?_) (fun e4=>?_)
   ·rw[e4,yU] at hr;cbv;refine cA cs ?_;cbv
    (refine rC ?_;cbv)
    exact zV hr.symm
   ·rw[e4,kJ] at hr;cbv
    (refine rC ?_;cbv)
    exact zM hr
 ·rw[decide_eq_false e1,kJ] at hr;cbv
  (refine rC ?_;cbv)
  exact zM hr
theorem zYH (s:Scp)(r:Row)(v p:A)(l u:R)(low top:Bool)(hs:Dsz (2^36) s.path)(hx:u.num.length<2^40):zE 296 [usv s r v p l u low top] (.bool (fun _=>offB s r u.q top)):=by
 refine sF Tryz.f296 ?_;have cd:=zSR s 2 r.i hs;have cs:=s86 u hx;generalize hres:offB s r u.q top=res;have hr:res=(decide (r.lo=0)&&((decide (r.hi=0)&&s.dcd 2 r.i) || (top&&decide (z4 u.q<=0)))):=hres.symm;clear hres hs;generalize s.dcd 2 r.i=dd at *
 generalize z4 u.q=sg at *
 obtain⟨⟨⟨gn,us,os⟩,⟨lo,hi,rows⟩,⟨ts,c1,c2,c3⟩⟩,path,lems⟩:=s;obtain⟨k,i,rlo,rhi⟩:=r;obtain⟨vt,v1,v2,v3⟩:=v;obtain⟨pt,p1,p2,p3⟩:=p;obtain⟨l1,l2,l3⟩:=l;obtain⟨u1,u2,u3⟩:=u;simp only at hr;cbv;refine zM3 ?_;cbv;refine zQ (fun e1=>?_) (fun e1=>?_)
 ·rw[decide_eq_true e1,yU] at hr;cbv;refine zQ (fun e2=>?_) (fun e2=>?_)
  ·rw[decide_eq_true e2,yU] at hr;cbv;refine cA cd ?_;cbv;refine z7 (fun e3=>?_) (fun e3=>?_)
   ·rw[e3,zLF] at hr;cbv
    (refine rC ?_;cbv)
    exact yN hr
   ·rw[e3,sI] at hr;cbv;refine z7 (fun e4=>?_) (fun e4=>?_)
    ·rw[e4,yU] at hr;cbv;refine cA cs ?_;cbv
     (refine rC ?_;cbv)
     exact zV hr.symm
    ·rw[e4,kJ] at hr;cbv
     (refine rC ?_;cbv)
     exact zM hr
  ·rw[decide_eq_false e2,kJ,sI] at hr;cbv;refine z7 (fun e4=>?_) (fun e4=>?_)
   ·rw[e4,yU] at hr;cbv;refine cA cs ?_;cbv
    (refine rC ?_;cbv)
    exact zV hr.symm
   ·rw[e4,kJ] at hr;cbv
    (refine rC ?_;cbv)
    exact zM hr
 ·rw[decide_eq_false e1,kJ] at hr;cbv
  (refine rC ?_;cbv)
  exact zM hr
theorem yX {α:Type}{p:α->List PV}{n:Nat}{l:List α}{i:Nat}{a:α}{K:List PV->Prop}(h:l[i]?=some a)(hf:∀ a,yR qW (p a)=true)(hn:∀ a,(p a).length=n)(hK:K (p a)):IdxOk n (fun _=>enc p l) (fun _=>(i:Int)) K :=
 xU (l:=l) i rfl (wH.1 h).1 hf hn (fun a' ha'=>by rw[h] at ha';cases ha';exact hK)
theorem xL {α:Type}{p:α->List PV}{n:Nat}{l:List α}{i:Nat}{k:Int}{a:α}{K:List PV->Prop}(h:l[i]?=some a)(hk:k=(i:Int))(hf:∀ a,yR qW (p a)=true)(hn:∀ a,(p a).length=n)(hK:K (p a)):IdxOk n (fun _=>enc p l) (fun _=>k) K :=
 xU (l:=l) i hk (wH.1 h).1 hf hn (fun a' ha'=>by rw[h] at ha';cases ha';exact hK)
theorem gU {α:Type}{p:α->List PV}{l:List α}{i:Nat}(h:(i:Int)<((enc p l).length:Int)):i<l.length:=by rw[zA] at h;omega
theorem bJ {α:Type}{p:α->List PV}{l:List α}{i:Nat}(h:¬(i:Int)<((enc p l).length:Int))(h2:i<=l.length):i=l.length:=by rw[zA] at h;omega
theorem zE1 {rs:List ResultVar}{r:PV}{ps ps':PS}{n:Nat}{o:Obj'}(hw:Wk ps ps')(h3:lv r=true)(h4:yG ps'.objs n=some o)(h5:cR o=true)(h6:Nat.ble 1000000 n=true)(h:match dJ ps' rs with
  |some l=>les (lD l) (ren id r)| none=>False):RetOk rs r [(n,o)] [] ps:=by
 cases h1:dJ ps' rs with
 |none=>rw[h1] at h;exact h.elim| some l=>rw[h1] at h;exact⟨ps',l,id,hw,h1,dO h,h3,⟨⟨by rw[zED];exact h4,h5⟩,trivial⟩,rfl,⟨rfl,Nat.le_of_ble_eq_true h6⟩,trivial⟩
theorem sR7V (a:A)(vars:Int)(ha:a.sz (2^32)):zE 95 [av a,.int .i64 (fun _=>vars)] (.bool (fun _=>a.valid vars)):=by
 refine sF Tryz.f95 ?_;obtain⟨ts,c⟩:=a;have hl:=ha.t.len;have hts:=ha.t.sz;have cc:=s129 c ha.c;generalize hr:A.valid vars ⟨ts,c⟩=r;have hr0:r=(vT vars (-1) ts&&c.ok):=hr.symm;simp only at hl hts cc;generalize c.ok=co at *
 clear hr ha;cbv;refine z3 (σ:=Nat×Int) (fun s=>⟨[(1,.int .i64 (fun _=>vars)),(2,.ptr 2 0),(5,.int .i64 (fun _=>(s.1:Int)))],[(2,.box [tsv ts,.bool (fun _=>c.neg),nat c.num,nat c.den])]⟩)
  (fun s=>s.1<=ts.length/\r=(vT vars s.2 (ts.drop s.1)&&co)/\(s.1=0->s.2=-1)/\(s.1≠0->∃ u,ts[s.1-1]?=some u/\u.1=s.2)) (fun s=>ts.length-s.1)
  (0,-1) ⟨om,hr0,fun _=>rfl,fun h=>absurd rfl h⟩ (wkZ) ?_
 intro s hs;obtain⟨h1,hv,h3,h4⟩:=hs;generalize s.1=i at *
 generalize s.2=p at *
 cbv;refine zG (fun h5=>?_) (fun h5=>?_)
 ·(obtain⟨t,ht⟩:=zT (gU h5);rw[zY ht,zC5] at hv;have htz:=hts t (yA ht);have cs:=s35 t.2 (by have:=htz.n;omega);have cv:=s129 t.2 htz;have hq:decide (t.2.q≠0)=decide (z4 t.2.q≠0):=by rw[decide_eq_decide];exact sgnQ_ne.symm);rw[hq] at hv
  generalize z4 t.2.q=sg at *
  generalize hok:t.2.ok=ok at *
  (generalize hrest:(vT vars t.1 (ts.drop (i+1))&&co)=rest;have hv':r=(decide (0<=t.1)&&decide (t.1<vars)&&decide (p<t.1)&&decide (sg≠0)&&ok&&rest):=by rw[hv,<-hrest];simp only[Bool.and_assoc]);have hi0:i<2^38:=by have:=(wH.1 ht).1;omega
  clear hv;cbv;refine yX ht wM wI ?_;cbv;refine zN 37 (by cbv) ?_;cbv;refine zQ (fun e1=>?_) (fun e1=>?_)
  ·cbv
   (refine rC ?_;cbv)
   exact zM (by rw[hv',decide_eq_false oM];rfl)
  cbv;refine zQ (fun e2=>?_) (fun e2=>?_)
  ·cbv
   (refine rC ?_;cbv)
   exact zM (by rw[hv',decide_eq_false (p:=t.1<vars) oM];simp)
  (cbv;have fin:(¬(p<t.1)->r=false):=fun h=>by rw[hv',decide_eq_false (p:=p<t.1) h];simp);have hmain:(p<t.1)->r=(decide (sg≠0)&&ok&&rest):=fun h=>by rw[hv',decide_eq_true (p:=p<t.1) h,decide_eq_true (p:=0<=t.1) oM,decide_eq_true (p:=t.1<vars) oM];simp only[yU]
  clear hv';have tail:r=(decide (sg≠0)&&ok&&rest)->True:=fun _=>trivial;refine zQ (fun e3=>?_) (fun e3=>?_)
  ·obtain⟨u,hu,hu2⟩:=h4 om;cbv;refine⟨zD om om,xL hu om wM wI ?_⟩;cbv;refine zQ (fun e4=>?_) (fun e4=>?_)
   ·cbv
    (refine rC ?_;cbv)
    exact zM (fin oM)
   have hm:=hmain oM;cbv;refine dA cs ?_;cbv;refine zQ (fun e5=>?_) (fun e5=>?_)
   ·cbv
    (refine rC ?_;cbv)
    exact zM (by rw[hm,decide_eq_false (by simpa using e5)];rfl)
   rw[decide_eq_true e5,yU] at hm;cbv;refine dA cv ?_;cbv;refine zP (fun e6=>?_) (fun e6=>?_);{rw[e6,yU] at hm;cbv;exact⟨zD om om,(i+1,t.1),⟨by have:=(wH.1 ht).1;omega,by rw[hm,hrest],fun h=>absurd h (by simp),fun _=>⟨_,ht,rfl⟩⟩,by have:=(wH.1 ht).1;omega,wkZ⟩}
   ·cbv
    (refine rC ?_;cbv)
    exact zM (by rw[hm,e6];rfl)
  ·have hp:=h3 om;have hm:=hmain oM;cbv;refine dA cs ?_;cbv;refine zQ (fun e5=>?_) (fun e5=>?_)
   ·cbv
    (refine rC ?_;cbv)
    exact zM (by rw[hm,decide_eq_false (by simpa using e5)];rfl)
   rw[decide_eq_true e5,yU] at hm;cbv;refine dA cv ?_;cbv;refine zP (fun e6=>?_) (fun e6=>?_);{rw[e6,yU] at hm;cbv;exact⟨zD om om,(i+1,t.1),⟨by have:=(wH.1 ht).1;omega,by rw[hm,hrest],fun h=>absurd h (by simp),fun _=>⟨_,ht,rfl⟩⟩,by have:=(wH.1 ht).1;omega,wkZ⟩}
   ·cbv
    (refine rC ?_;cbv)
    exact zM (by rw[hm,e6];rfl)
 ·(have he:=bJ h5 h1;rw[he,w4] at hv;have hv':r=co:=by rw[hv];rfl);cbv
  refine cA cc ?_;cbv
  (refine rC ?_;cbv)
  exact zV hv'.symm
theorem sR7A (l:List A)(vars:Int)(hl:Asz (2^32) l):zE 155 [alv l,.int .i64 (fun _=>vars)] (.bool (fun _=>l.all (A.valid vars))):=by
 refine sF Tryz.f155 ?_;have hll:=hl.len;have hls:=hl.sz;have hc:∀ a,a∈l->zE 95 [av a,.int .i64 (fun _=>vars)] (.bool (fun _=>a.valid vars)):=fun a h=>sR7V a vars (hls a h);obtain⟨P,hP⟩:∃ P,A.valid vars=P:=⟨_,rfl⟩;rw[hP] at hc ⊢;generalize hr:l.all P=r;have hr0:r=(l.drop 0).all P:=hr.symm;clear hr hls hl;cbv;refine z3 (σ:=Nat) (fun i=>⟨[(0,alv l),(1,.int .i64 (fun _=>vars)),(5,.int .i64 (fun _=>(i:Int)))],[]⟩) (fun i=>i<=l.length/\r=(l.drop i).all P) (fun i=>l.length-i) 0 ⟨by omega,hr0⟩ (wkZ) ?_;intro i hi;obtain⟨h1,h2⟩:=hi;cbv;refine zG (fun h5=>?_) (fun h5=>?_)
 ·have hlt:=gU h5;obtain⟨a,ha⟩:=zT hlt;have ca:=hc a (yA ha);rw[zY ha,zMJ] at h2;generalize P a=pa at *
  generalize hrest:(l.drop (i+1)).all P=rest at *
  cbv;refine yX ha gK bK ?_;cbv;refine cA ca ?_;cbv;refine zP (fun e=>?_) (fun e=>?_);{cbv;exact⟨zD om om,i+1,⟨om,by rw[h2,e,hrest];rfl⟩,om,wkZ⟩}
  ·cbv
   (refine rC ?_;cbv)
   exact zM (by rw[h2,e];rfl)
 ·have he:=bJ h5 h1;rw[he,w4] at h2;have h2':r=true:=h2;cbv
  (refine rC ?_;cbv)
  exact yN h2'
theorem sR3A (l:List R)(hl:Rsz (2^32) l):zE 156 [rlv l] (.bool (fun _=>l.all R.ok)):=by
 refine sF Tryz.f156 ?_;have hll:=hl.len;have hls:=hl.sz;have hc:∀ a,a∈l->zE 157 [rv a] (.bool (fun _=>a.ok)):=fun a h=>s129 a (hls a h);obtain⟨P,hP⟩:∃ P,R.ok=P:=⟨_,rfl⟩;rw[hP] at hc ⊢;generalize hr:l.all P=r;have hr0:r=(l.drop 0).all P:=hr.symm;clear hr hls hl;cbv;refine z3 (σ:=Nat) (fun i=>⟨[(0,rlv l),(3,.int .i64 (fun _=>(i:Int)))],[]⟩) (fun i=>i<=l.length/\r=(l.drop i).all P) (fun i=>l.length-i) 0 ⟨by omega,hr0⟩ (wkZ) ?_;intro i hi;obtain⟨h1,h2⟩:=hi;cbv;refine zG (fun h5=>?_) (fun h5=>?_)
 ·have hlt:=gU h5;obtain⟨a,ha⟩:=zT hlt;have ca:=hc a (yA ha);rw[zY ha,zMJ] at h2;generalize P a=pa at *
  generalize hrest:(l.drop (i+1)).all P=rest at *
  cbv;refine yX ha gG bG ?_;cbv;refine cA ca ?_;cbv;refine zP (fun e=>?_) (fun e=>?_);{cbv;exact⟨zD om om,i+1,⟨om,by rw[h2,e,hrest];rfl⟩,om,wkZ⟩}
  ·cbv
   (refine rC ?_;cbv)
   exact zM (by rw[h2,e];rfl)
 ·have he:=bJ h5 h1;rw[he,w4] at h2;have h2':r=true:=h2;cbv
  (refine rC ?_;cbv)
  exact yN h2'
theorem zWQ (g:Grp)(hg:g.sz (2^32)):zE 93 [gv g] (.bool (fun _=>g.valid)):=by
 refine sF Tryz.f93 ?_;obtain⟨n,us,os⟩:=g;have hus:=hg.us;have hos:=hg.os;have hc:∀ a,a∈us->∀ k,zE 95 [av a,.int .i64 (fun _=>k)] (.bool (fun _=>a.valid k)):=fun a h k=>sR7V a k (hus.sz a h);have ca:=sR7A os (n+us.length) hos;have hul:=hus.len;have hol:=hos.len;dsimp only at hul hol;generalize hr:Grp.valid ⟨n,us,os⟩=r;have hr0:r=(decide (1<=n/\n<=256/\us.length<=1024/\1<=os.length/\os.length<=256)&&vU n us&&os.all (A.valid (n+us.length))):=hr.symm;obtain⟨U,hU⟩:∃ U,vU=U:=⟨_,rfl⟩;have hU0:∀ k,U k []=true:=fun k=>by rw[<-hU];rfl
 have hU1:∀ k f l,U k (f::l)=(f.valid k&&U (k+1) l):=fun k f l=>by rw[<-hU];rfl
 rw[hU] at hr0;generalize os.all (A.valid (n+us.length))=oa at *
 have hf:¬(1<=n/\n<=256/\us.length<=1024/\1<=os.length/\os.length<=256)->r=false:=fun h=>by rw[hr0,decide_eq_false h];rfl
 have ht:(1<=n/\n<=256/\us.length<=1024/\1<=os.length/\os.length<=256)->r=(U n us&&oa):=fun h=>by rw[hr0,decide_eq_true h,yU]
 clear hr hr0 hU hg hus hos;cbv;refine zQ (fun e1=>?_) (fun e1=>?_)
 ·cbv
  (refine rC ?_;cbv)
  exact zM (hf okQ)
 cbv;refine zQ (fun e2=>?_) (fun e2=>?_)
 ·cbv
  (refine rC ?_;cbv)
  exact zM (hf okQ)
 cbv;refine zQ (fun e3=>?_) (fun e3=>?_)
 ·cbv
  (refine rC ?_;cbv)
  exact zM (hf okQ)
 cbv;refine zQ (fun e4=>?_) (fun e4=>?_)
 ·cbv
  (refine rC ?_;cbv)
  exact zM (hf okQ)
 cbv;refine zG (fun e5=>?_) (fun e5=>?_)
 ·cbv
  (refine rC ?_;cbv)
  exact zM (hf okQ)
 have hv:=ht okQ;have hn1:1<=n:=okQ;have hn2:n<=256:=okQ;have hu2:us.length<=1024:=okQ;clear ht hf e1 e2 e3 e4 e5;cbv;refine z3 (σ:=Nat) (fun i=>⟨[(1,.ptr 1 0),(3,.int .i64 (fun _=>(i:Int)))],[(1,.box [.int .i64 (fun _=>n),alv us,alv os])]⟩) (fun i=>i<=us.length/\r=(U (n+i) (us.drop i)&&oa)) (fun i=>us.length-i) 0 ⟨by omega,by rw[hv,show n+((0:Nat):Int)=n by omega];rfl⟩ (wkZ) ?_;clear hv;intro i hi;obtain⟨h1,h2⟩:=hi;cbv;refine zG (fun h5=>?_) (fun h5=>?_)
 ·have hlt:=gU h5;obtain⟨a,ha⟩:=zT hlt;have cv:=hc a (yA ha) (n+i);rw[zY ha,hU1] at h2;generalize a.valid (n+i)=pa at *
  generalize hrest:U (n+i+1) (us.drop (i+1))=rest at *
  (have hrest':U (n+((i+1:Nat):Int)) (us.drop (i+1))=rest:=by rw[<-hrest];congr 1;omega);cbv
  refine zN 9 (by cbv) ?_;cbv;refine yX ha gK bK ?_;cbv;refine⟨zD om om,?_⟩;cbv;refine cA cv ?_;cbv;refine zP (fun e=>?_) (fun e=>?_);{cbv;exact⟨zD om om,i+1,⟨om,by rw[h2,e,hrest',yU]⟩,om,wkZ⟩}
  ·cbv
   (refine rC ?_;cbv)
   exact zM (by rw[h2,e];rfl)
 ·have he:=bJ h5 h1;rw[he,w4,hU0] at h2;have h2':r=oa:=h2;cbv;refine⟨zD okQ okQ,?_⟩;cbv;refine yP rfl (by refine⟨lR,zC ?_,trivial⟩;rw[zA]) ca rfl ?_;cbv
  (refine rC ?_;cbv)
  exact zV h2'.symm
theorem tV (g:Grp)(hg:g.sz (2^32)):zE 51 [gv g] (.int .i64 (fun _=>if g.valid=true then g.vars else 0)):=by
 refine sF Tryz.f51 ?_;have cv:=zWQ g hg;have hb:g.valid=true->1<=g.n/\g.n<=256/\g.us.length<=1024:=fun h=>by unfold Grp.valid at h;simp only[yT,decide_eq_true_eq] at h;omega
 have hd:g.vars=g.n+g.us.length:=rfl;generalize g.vars=w at *
 generalize g.valid=b at *
 obtain⟨n,us,os⟩:=g;dsimp only at hb hd;cbv;refine cA cv ?_;cbv;refine zP (fun e=>?_) (fun e=>?_)
 ·have hb':=hb e;cbv;refine⟨zD okQ okQ,?_⟩;cbv
  (refine rC ?_;cbv)
  exact zC (by rw[zA,if_pos e,hd])
 ·cbv
  (refine rC ?_;cbv)
  exact zC (by rw[if_neg (by rw[e];decide)])
def cB:List R->List R->Bool
 |l::ls,h::hs=>decide (uD l.q h.q<=0)&&cB ls hs| _,_=>true
theorem zDL:∀ {lo hi:List R},lo.length=hi.length->vB lo hi=(lo.all R.ok&&(hi.all R.ok&&cB lo hi))
 |[],[],_=>rfl| l::ls,h::hs,e=>by have ih:=zDL (lo:=ls) (hi:=hs) (by simpa using e);rw[zNM,ih,zMJ,zMJ];show _=(l.ok&&ls.all R.ok&&(h.ok&&hs.all R.ok&&(decide (uD l.q h.q<=0)&&cB ls hs)));generalize l.ok=a;generalize h.ok=b;generalize decide (uD l.q h.q<=0)=c;generalize ls.all R.ok=d;generalize hs.all R.ok=f;generalize cB ls hs=g;cases a <;> cases b <;> cases c <;> cases d <;> cases f <;> cases g <;> rfl
 |[],h::hs,e=>by simp at e| l::ls,[],e=>by simp at e
theorem yAD (g:Reg)(n:Int)(hg:g.sz (2^31)):zE 94 [rgv g,.int .i64 (fun _=>n)] (.bool (fun _=>g.valid n)):=by
 refine sF Tryz.f94 ?_;obtain⟨lo,hi,rows⟩:=g;have cl:=sR3A lo (hg.lo.mono (by decide));have ch:=sR3A hi (hg.hi.mono (by decide));have cr:=sR7A rows n (hg.rows.mono (by decide));have hlo:=hg.lo.sz;have hhi:=hg.hi.sz;have hll:=hg.lo.len;have hhl:=hg.hi.len;have hrl:=hg.rows.len;dsimp only at hlo hhi hll hhl hrl;have cc:∀ a b,a∈lo->b∈hi->zE 48 [rv a,rv b] (.int .i64 (fun _=>uD a.q b.q)):=fun a b h1 h2=>s42 a b (hlo a h1) (hhi b h2);generalize hr:Reg.valid n ⟨lo,hi,rows⟩=r;have hr0:r=(decide (1<=n/\n<=256/\(lo.length:Int)=n/\(hi.length:Int)=n/\rows.length<=256)&&vB lo hi&&rows.all (A.valid n)):=hr.symm;have hf:¬(1<=n/\n<=256/\(lo.length:Int)=n/\(hi.length:Int)=n/\rows.length<=256)->r=false:=fun h=>by rw[hr0,decide_eq_false h];rfl
 have ht:(1<=n/\n<=256/\(lo.length:Int)=n/\(hi.length:Int)=n/\rows.length<=256)->r=(lo.all R.ok&&(hi.all R.ok&&cB lo hi)&&rows.all (A.valid n)):=fun h=>by rw[hr0,decide_eq_true h,yU,zDL oM]
 obtain⟨C,hC⟩:∃ C,cB=C:=⟨_,rfl⟩;have hC0:C [] []=true:=by rw[<-hC];rfl
 have hC1:∀ a l b m,C (a::l) (b::m)=(decide (uD a.q b.q<=0)&&C l m):=fun _ _ _ _=>by rw[<-hC];rfl
 rw[hC] at ht;generalize lo.all R.ok=la at *
 generalize hi.all R.ok=ha at *
 generalize rows.all (A.valid n)=ra at *
 clear hr hr0 hC hlo hhi hg;cbv;refine zQ (fun e1=>?_) (fun e1=>?_)
 ·cbv
  (refine rC ?_;cbv)
  exact zM (hf okQ)
 cbv;refine zQ (fun e2=>?_) (fun e2=>?_)
 ·cbv
  (refine rC ?_;cbv)
  exact zM (hf okQ)
 cbv;refine zQ (fun e3=>?_) (fun e3=>?_)
 rotate_left
 ·cbv
  (refine rC ?_;cbv)
  exact zM (hf okQ)
 cbv;refine zQ (fun e4=>?_) (fun e4=>?_)
 rotate_left
 ·cbv
  (refine rC ?_;cbv)
  exact zM (hf okQ)
 cbv;refine zG (fun e5=>?_) (fun e5=>?_)
 ·cbv
  (refine rC ?_;cbv)
  exact zM (hf okQ)
 have hv:=ht okQ;have hn1:1<=n:=okQ;have hn2:n<=256:=okQ;have hn3:(lo.length:Int)=n:=okQ;have hn4:(hi.length:Int)=n:=okQ;clear ht hf e1 e2 e3 e4 e5;cbv;refine cA cl ?_;cbv;refine z7 (fun e=>?_) (fun e=>?_)
 rotate_left
 ·cbv
  (refine rC ?_;cbv)
  exact zM (by rw[hv,e];rfl)
 rw[e,yU] at hv;cbv;refine cA ch ?_;cbv;refine z7 (fun e=>?_) (fun e=>?_)
 rotate_left
 ·cbv
  (refine rC ?_;cbv)
  exact zM (by rw[hv,e];rfl)
 rw[e,yU] at hv;cbv;refine cA cr ?_;cbv;refine zP (fun e=>?_) (fun e=>?_)
 rotate_left
 ·cbv
  (refine rC ?_;cbv)
  exact zM (by rw[hv,e];simp)
 rw[e,zMK] at hv;cbv;refine z3 (σ:=Nat) (fun i=>⟨[(1,.int .i64 (fun _=>n)),(2,.ptr 2 0),(5,.int .i64 (fun _=>(i:Int)))],[(2,.box [rlv lo,rlv hi,alv rows])]⟩) (fun i=>i<=lo.length/\r=C (lo.drop i) (hi.drop i)) (fun i=>lo.length-i) 0 ⟨by omega,hv⟩ (wkZ) ?_;clear hv;intro i hi';obtain⟨h1,h2⟩:=hi';cbv;refine zG (fun h5=>?_) (fun h5=>?_)
 ·have hlt:i<lo.length:=okQ;obtain⟨a,ha⟩:=zT hlt;obtain⟨b,hb⟩:=zT (l:=hi) (i:=i) okQ;have cv:=cc a b (yA ha) (yA hb);rw[zY ha,zY hb,hC1] at h2;generalize uD a.q b.q=cq at *
  generalize hrest:C (lo.drop (i+1)) (hi.drop (i+1))=rest at *
  cbv;refine zN 10 (by cbv) ?_;cbv;refine yX ha gG bG ?_;cbv;refine yX hb gG bG ?_;cbv;refine cA cv ?_;cbv;refine zG (fun e=>?_) (fun e=>?_)
  ·cbv
   (refine rC ?_;cbv)
   exact zM (by rw[h2,decide_eq_false oM];rfl)
  {cbv;exact⟨zD om om,i+1,⟨om,by rw[h2,decide_eq_true oM,hrest];rfl⟩,om,wkZ⟩}
 ·have he:i=lo.length:=okQ;have he2:i=hi.length:=okQ;rw[show lo.drop i=[] by rw[he,w4],show hi.drop i=[] by rw[he2,w4],hC0] at h2;cbv
  (refine rC ?_;cbv)
  exact yN h2
theorem zG3 (q:Qry)(hq:q.sz (2^31)):zE 34 [qv q] (.bool (fun _=>q.valid)):=by
 refine sF Tryz.f34 ?_;have c1:=zWQ q.g (hq.g.mono (by decide));have c2:=yAD q.r q.g.n hq.r;have c3:=tV q.g (hq.g.mono (by decide));have c4:=sR7V q.goal q.g.vars (hq.goal.mono (by decide));have hr:q.valid=(q.g.valid&&q.r.valid q.g.n&&q.goal.valid q.g.vars):=rfl;generalize q.valid=r at *
 generalize q.g.valid=b1 at *
 generalize q.r.valid q.g.n=b2 at *
 generalize q.goal.valid q.g.vars=b3 at *
 generalize q.g.vars=w at *
 obtain⟨⟨n,us,os⟩,⟨lo,hi,rows⟩,⟨ts,x1,x2,x3⟩⟩:=q;cbv;refine zN 19 (by cbv) ?_;cbv;refine dA c1 ?_;cbv;refine z7 (fun e=>?_) (fun e=>?_)
 rotate_left
 ·cbv
  (refine rC ?_;cbv)
  exact zM (by rw[hr,e];rfl)
 rw[e,yU] at hr;cbv;refine dA c2 ?_;cbv;refine z7 (fun e2=>?_) (fun e2=>?_)
 rotate_left
 ·cbv
  (refine rC ?_;cbv)
  exact zM (by rw[hr,e2];rfl)
 rw[e2,yU] at hr;cbv;refine dA c3 ?_;cbv;refine x9 (by exact⟨okA,zC (if_pos e),trivial⟩) c4 rfl ?_;cbv
 (refine rC ?_;cbv)
 exact zV hr.symm
theorem zMY (q:Qry)(d:Dec)(hd:d.x.sz (2^32)):zE 163 [qv q,dv d] (.bool (fun _=>d.fits q)):=by
 refine sF Tryz.f163 ?_;have cz:=s69 d.x R0 hd ⟨by decide,by decide⟩;have cv:=s129 d.x hd;have hr:d.fits q=if d.k=1\/d.k=2 then decide (0<=d.i/\d.i<q.g.us.length)&&decide (d.x=R0) else if d.k=3\/d.k=4 then decide (0<=d.i/\d.i<q.g.n)&&d.x.ok else false:=rfl
 generalize d.fits q=r at *
 generalize decide (d.x=R0)=z at *
 generalize d.x.ok=ok at *
 obtain⟨⟨n,us,os⟩,⟨lo,hi,rows⟩,⟨ts,c1,c2,c3⟩⟩:=q;obtain⟨k,i,x1,x2,x3⟩:=d;simp only at hr;have u1:∀ (hk:k=1\/k=2),(0<=i->i<us.length->r=z)/\(¬(0<=i/\i<us.length)->r=false):=fun hk=>by rw[if_pos hk] at hr;exact⟨fun h1 h2=>by rw[hr,decide_eq_true ⟨h1,h2⟩,yU],fun h=>by rw[hr,decide_eq_false h];rfl⟩
 have u2:∀ (hk:k=3\/k=4),(0<=i->i<n->r=ok)/\(¬(0<=i/\i<n)->r=false):=fun hk=>by rw[if_neg oM,if_pos hk] at hr;exact⟨fun h1 h2=>by rw[hr,decide_eq_true ⟨h1,h2⟩,yU],fun h=>by rw[hr,decide_eq_false h];rfl⟩
 have u3:¬(k=1\/k=2\/k=3\/k=4)->r=false:=fun hk=>by rw[if_neg oM,if_neg oM] at hr;exact hr
 clear hr;cbv;have hk:(k=1\/k=2)\/(k=3\/k=4)\/(k<=0\/5<=k):=by omega
 rcases hk with hk|hk|hk
 ·obtain⟨v1,v2⟩:=u1 hk;clear u1 u2 u3;refine fX (σ:=Unit) (fun _=>⟨[(2,.ptr 2 0),(3,.ptr 3 0),(6,.int .i64 (fun _=>k)),(7,.tt)],[(2,.box [.int .i64 (fun _=>n),alv us,alv os,rlv lo,rlv hi,alv rows,tsv ts,.bool (fun _=>c1),nat c2,nat c3]),(3,.box [.int .i64 (fun _=>k),.int .i64 (fun _=>i),.bool (fun _=>x1),nat x2,nat x3])]⟩) (fun _=>True) (fun e=>?_) (fun e=>?_) (fun _ _=>?_);{cbv;exact⟨(),trivial,.le (by cbv;exact⟨lR,lR,lR,⟨by simp only[Le,decide_eq_true_eq];exact e⟩,trivial⟩) okZ rfl⟩};{cbv;exact⟨(),trivial,.le (by cbv;exact⟨lR,lR,lR,⟨by simp only[Le,decide_eq_true_eq];(try dsimp only [zF] at *);omega⟩,trivial⟩) okZ rfl⟩}
  ·cbv;refine zQ (fun e1=>?_) (fun e1=>?_)
   ·cbv;refine zQ (fun e2=>?_) (fun e2=>?_)
    ·cbv;refine cA cz ?_;cbv
     (refine rC ?_;cbv)
     exact zV (by rw[v1 okQ okQ])
    ·cbv
     (refine rC ?_;cbv)
     exact zM (v2 okQ)
   ·cbv
    (refine rC ?_;cbv)
    exact zM (v2 okQ)
 ·obtain⟨v1,v2⟩:=u2 hk;clear u1 u2 u3;refine yB om ?_;cbv;refine yB om ?_;cbv;refine fX (σ:=Unit) (fun _=>⟨[(2,.ptr 2 0),(3,.ptr 3 0),(28,.tt)],[(2,.box [.int .i64 (fun _=>n),alv us,alv os,rlv lo,rlv hi,alv rows,tsv ts,.bool (fun _=>c1),nat c2,nat c3]),(3,.box [.int .i64 (fun _=>k),.int .i64 (fun _=>i),.bool (fun _=>x1),nat x2,nat x3])]⟩) (fun _=>True) (fun e=>?_) (fun e=>?_) (fun _ _=>?_);{cbv;exact⟨(),trivial,.le (by cbv;exact⟨lR,lR,⟨by simp only[Le,decide_eq_true_eq];exact e⟩,trivial⟩) okZ rfl⟩};{cbv;exact⟨(),trivial,.le (by cbv;exact⟨lR,lR,⟨by simp only[Le,decide_eq_true_eq];(try dsimp only [zF] at *);omega⟩,trivial⟩) okZ rfl⟩}
  ·cbv;refine zQ (fun e1=>?_) (fun e1=>?_)
   ·cbv;refine zQ (fun e2=>?_) (fun e2=>?_)
    ·cbv;refine cA cv ?_;cbv
     (refine rC ?_;cbv)
     exact zV (by rw[v1 okQ okQ])
    ·cbv
     (refine rC ?_;cbv)
     exact zM (v2 okQ)
   ·cbv
    (refine rC ?_;cbv)
    exact zM (v2 okQ)
 ·have hr:=u3 oM;refine yB om ?_;cbv;refine yB om ?_;cbv;refine yB om ?_;cbv;refine yB om ?_;cbv
  (refine rC ?_;cbv)
  exact zM hr
theorem zT1 (q:Qry)(d:Dec)(hq:q.sz (2^31))(hd:d.x.sz (2^32)):zE 105 [qv q,dv d] (.bool (fun _=>q.valid&&d.fits q)):=by
 refine sF Tryz.f105 ?_;have c1:=zG3 q hq;have c2:=zMY q d hd;generalize hr:(q.valid&&d.fits q)=r;generalize q.valid=b1 at *
 generalize d.fits q=b2 at *
 obtain⟨⟨n,us,os⟩,⟨lo,hi,rows⟩,⟨ts,x1,x2,x3⟩⟩:=q;obtain⟨k,i,y1,y2,y3⟩:=d;cbv;refine cA c1 ?_;cbv;refine z7 (fun e=>?_) (fun e=>?_)
 ·cbv;refine cA c2 ?_;cbv
  (refine rC ?_;cbv)
  exact zV (by rw[<-hr,e];rfl)
 ·cbv
  (refine rC ?_;cbv)
  exact zM (by rw[<-hr,e];rfl)
end Go.Proofs.YtaeaffgjdcigoaaGreat
