/- A part of the proof: RwA, RwB, UtA, RvA, RvB, DvA. -/
import Derived.Test.YtboocdbmnfjomaaGreatR21
import Derived.Test.YtboocdbmnfjomaaGreatR20
set_option linter.all false
namespace Go.Proofs.YtboocdbmnfjomaaGreat
open Go
set_option maxRecDepth 100000
set_option maxHeartbeats 2000000
abbrev R0:R:=⟨false,[],[]⟩
def Rv (x:R):zE 190 [rv x] (zM (decide (x=R0))):=by
 refine sF Tryz.f190 ?_;obtain⟨a,b,c⟩:=x;have h0:∀ l:List UInt32,((lm l).length:Int)=0↔l=[]:=λl=>by grind [zJ,List.eq_nil_of_length_eq_zero]
 generalize hr:decide ((⟨a,b,c⟩:R)=R0)=r;have hr0:r=(!a&&(decide (((lm b).length:Int)=0)&&decide (((lm c).length:Int)=0))):=by simp_all
 clear hr;cbv;refine yH (λe=>?_) (λe=>?_)
 ·subst e;cbv
  (refine rC ?_;cbv)
  exact zN (by grind)
 ·subst e;cbv;refine zU (λe=>?_) (λe=>?_)
  ·rw[decide_eq_true e] at hr0;cbv
   (refine rC ?_;cbv)
   exact z4 (by grind)
  ·rw[decide_eq_false e] at hr0;cbv
   (refine rC ?_;cbv)
   exact zN (by grind)
def KS (q:Qry)(d:Dec)(hd:d.x.sz (2^36)):zE 136 [qv q,dv d] (zM (d.fits q)):=by
 refine sF Tryz.f136 ?_;have cz:=Rv d.x;have cv:=Bn d.x hd;have hr:d.fits q=if d.k=1\/d.k=2 then decide (0<=d.i/\d.i<q.g.us.length)&&decide (d.x=R0) else if d.k=3\/d.k=4 then decide (0<=d.i/\d.i<q.g.n)&&d.x.ok else false:=rfl
 generalize d.fits q=r at *;generalize decide (d.x=R0)=z at *;generalize d.x.ok=ok at *;obtain⟨⟨n,us,os⟩,⟨lo,hi,rows⟩,⟨ts,c1,c2,c3⟩⟩:=q;obtain⟨k,i,x1,x2,x3⟩:=d;simp only at hr;have u1:∀ (hk:k=1\/k=2),(0<=i->i<us.length->r=z)/\(¬(0<=i/\i<us.length)->r=false):=λhk=>by grind
 have u2:∀ (hk:k=3\/k=4),(0<=i->i<n->r=ok)/\(¬(0<=i/\i<n)->r=false):=λhk=>by grind
 have u3:¬(k=1\/k=2\/k=3\/k=4)->r=false:=λhk=>by grind
 clear hr;cbv;have hk:k=1\/k=2\/k=3\/k=4\/(k<=0\/5<=k):=by omega
 rcases hk with rfl|rfl|rfl|rfl|hk
 ·obtain⟨v1,v2⟩:=u1 (.inl rfl);clear u1 u2 u3;refine xF rfl ?_;cbv;refine xF rfl ?_;cbv;refine zU (λe1=>?_) (λe1=>?_)
  ·cbv;refine zU (λe2=>?_) (λe2=>?_)
   ·cbv;refine cA cz ?_;cbv
    (refine rC ?_;cbv)
    exact z4 (by rw[v1 om (by rw[zB] at e2;exact om)])
   ·cbv
    (refine rC ?_;cbv)
    exact zN (v2 (λh=>by rw[zB] at e2;exact om))
  ·cbv
   (refine rC ?_;cbv)
   exact zN (v2 (λh=>by exact om))
 ·obtain⟨v1,v2⟩:=u1 (.inr rfl);clear u1 u2 u3;refine yE (by simp) ?_;cbv;refine xF rfl ?_;cbv;refine zU (λe1=>?_) (λe1=>?_)
  ·cbv;refine zU (λe2=>?_) (λe2=>?_)
   ·cbv;refine cA cz ?_;cbv
    (refine rC ?_;cbv)
    exact z4 (by rw[v1 om (by rw[zB] at e2;exact om)])
   ·cbv
    (refine rC ?_;cbv)
    exact zN (v2 (λh=>by rw[zB] at e2;exact om))
  ·cbv
   (refine rC ?_;cbv)
   exact zN (v2 (λh=>by exact om))
 ·obtain⟨v1,v2⟩:=u2 (.inl rfl);clear u1 u2 u3;refine yE (by simp) ?_;cbv;refine yE (by simp) ?_;cbv;refine xF rfl ?_;cbv;refine xF rfl ?_;cbv;refine zU (λe1=>?_) (λe1=>?_)
  ·cbv;refine zU (λe2=>?_) (λe2=>?_)
   ·cbv;refine cA cv ?_;cbv
    (refine rC ?_;cbv)
    exact z4 (by rw[v1 om (by exact om)])
   ·cbv
    (refine rC ?_;cbv)
    exact zN (v2 (λh=>by exact om))
  ·cbv
   (refine rC ?_;cbv)
   exact zN (v2 (λh=>by exact om))
 ·obtain⟨v1,v2⟩:=u2 (.inr rfl);clear u1 u2 u3;refine yE (by simp) ?_;cbv;refine yE (by simp) ?_;cbv;refine yE (by simp) ?_;cbv;refine xF rfl ?_;cbv;refine zU (λe1=>?_) (λe1=>?_)
  ·cbv;refine zU (λe2=>?_) (λe2=>?_)
   ·cbv;refine cA cv ?_;cbv
    (refine rC ?_;cbv)
    exact z4 (by rw[v1 om (by exact om)])
   ·cbv
    (refine rC ?_;cbv)
    exact zN (v2 (λh=>by exact om))
  ·cbv
   (refine rC ?_;cbv)
   exact zN (v2 (λh=>by exact om))
 ·have hr:=u3 oM;clear u1 u2 u3;refine yE (by grind) ?_;cbv;refine yE (by grind) ?_;cbv;refine yE (by grind) ?_;cbv;refine yE (by grind) ?_;cbv
  (refine rC ?_;cbv)
  exact zN hr
def Row.plain (r:Row):Bool:=decide (r.lo=0)&&decide (r.hi=0)
def KR (r:Row):zE 131 [rwv r] (zM r.plain):=by
 refine sF Tryz.f131 ?_;have hr:r.plain=(decide (r.lo=0)&&decide (r.hi=0)):=rfl;generalize r.plain=p at *;obtain⟨k,i,lo,hi⟩:=r;cbv;refine zU (λe=>?_) (λe=>?_)
 ·simp only at hr;rw[decide_eq_true e,yU] at hr;cbv
  (refine rC ?_;cbv)
  exact z4 hr.symm
 ·simp only at hr;rw[decide_eq_false e] at hr;cbv
  (refine rC ?_;cbv)
  exact zN hr
def F.var (v:Int):F:=⟨[(v,1)],0⟩
def F.num (q:Rat):F:=⟨[],q⟩
def U9 (v:Int):zE 133 [iV v] (fv (F.var v)):=by
 refine sF Tryz.f133 ?_;have c1:=HP 1 (by decide) (by decide);have e:fv (F.var v)=.agg [.sl (λ_=>[xC [iV v,zM ((zI ((1:Int):Rat)).neg),nat (zI ((1:Int):Rat)).num,nat (zI ((1:Int):Rat)).den]]),zM R0.neg,nat R0.num,nat R0.den]:=by show av ⟨[(v,zI 1)],zI 0⟩=_;rw[vR];rfl
 rw[e];clear e;generalize zI ((1:Int):Rat)=o at *;obtain⟨o1,o2,o3⟩:=o;cbv;refine cA c1 ?_;cbv
 (refine rC ?_;cbv)
 exact⟨zT rfl,zN rfl,xD rfl,xD rfl,trivial⟩
def ZO (x:R)(hx:x.sz (2^36)):zE 134 [rv x] (fv (F.num x.q)):=by refine sF Tryz.f134 ?_;have c1:=Dw x hx;show wp _ _ (fD _ (.agg [tsv [],zM ((zI x.q).neg),nat (zI x.q).num,nat (zI x.q).den]) [] []);generalize zI x.q=w at *;obtain⟨w1,w2,w3⟩:=w;obtain⟨x1,x2,x3⟩:=x;cbv;refine cA c1 ?_;cbv;exact rA
def XG (f:A)(hf:f.sz (2^33)):zE 137 [av f] (fv (f.f.scale (-1))):=by refine sF Tryz.f137 ?_;have c1:=HP (-1) (by decide) (by decide);have c2:=XK f (zI ((-1:Int):Rat)) hf ((Y1 (-1) (by decide) (by decide)).mono (by decide));rw[z7] at c2;have e:f.f.scale ((-1:Int):Rat)=f.f.scale (-1):=rfl;rw[e] at c2;generalize fA (f.f.scale (-1))=W at *;generalize zI ((-1:Int):Rat)=o at *;obtain⟨ft,f1,f2,f3⟩:=f;obtain⟨wt,w1,w2,w3⟩:=W;cbv;refine zP 3 (by cbv) ?_;cbv;refine dA c1 ?_;cbv;refine dA c2 ?_;cbv;exact rA
def Scp.lem (s:Scp) (n unit:Int) (up:Bool):Option Rat :=
 if 1<=n/\n<=s.lems.length then
  match s.lems[(n-1).toNat]? with
  |some m=>if m.u=unit/\m.up=up then some m.v.q else none| none=>none
 else none
def H8 {s:Scp}{n unit:Int}{up:Bool}(h:¬(1<=n/\n<=s.lems.length)):s.lem n unit up=none:=if_neg h
def H9 {s:Scp}{n unit:Int}{up:Bool}{m:Lem}(h:1<=n)(h2:n<=s.lems.length)(hm:s.lems[(n-1).toNat]?=some m):s.lem n unit up=if m.u=unit/\m.up=up then some m.v.q else none:=by unfold Scp.lem;simp_all
def C1 (s:Scp)(n unit:Int)(up:Bool)(hs:Lsz (2^36) s.lems):zE 141 [sv s,iV n,iV unit,zM up] (.tup [rv (zI ((s.lem n unit up).getD 0)),zM ((s.lem n unit up).isSome)]):=by
 refine sF Tryz.f141 ?_;have hno:¬(1<=n/\n<=s.lems.length)->s.lem n unit up=none:=λh=>H8 h;have hat:∀ m,1<=n->n<=s.lems.length->s.lems[(n-1).toNat]?=some m->s.lem n unit up=if m.u=unit/\m.up=up then some m.v.q else none:=λm h1 h2 h3=>H9 h1 h2 h3
 have hsl:=hs.len;have hss:=hs.sz;generalize s.lem n unit up=o at *;obtain⟨⟨⟨gn,us,os⟩,⟨lo,hi,rows⟩,⟨ts,c1,c2,c3⟩⟩,path,lems⟩:=s;simp only at hno hat hsl hss;have fin:∀ (W:R) (b:Bool),o=none->W=zI (o.getD 0)/\b=o.isSome->W=R0/\b=false:=λW b h1 h2=>by rw[h1] at h2;exact⟨by rw[h2.1];exact vR,h2.2⟩
 obtain⟨W,hW⟩:∃ W,W=zI (o.getD 0):=⟨_,rfl⟩;obtain⟨b,hb⟩:∃ b,b=o.isSome:=⟨_,rfl⟩;rw[<-hW,<-hb];have fin':o=none->W=R0/\b=false:=λh=>fin W b h ⟨hW,hb⟩;have fin2:∀ q,o=some q->W=zI q/\b=true:=λq h=>by grind
 clear fin hW hb;obtain⟨W1,W2,W3⟩:=W;have fin3:o=none->W1=false/\W2=[]/\W3=[]/\b=false:=λh=>by grind
 clear fin';cbv;refine zU (λe1=>?_) (λe1=>?_);{cbv;obtain⟨g1,g2,g3,g4⟩:=fin3 (hno oM);subst g1 g2 g3 g4;exact rA};cbv;refine zU (λe2=>?_) (λe2=>?_);{cbv;obtain⟨g1,g2,g3,g4⟩:=fin3 (hno (by rw[zB] at e2;exact om));subst g1 g2 g3 g4;exact rA};cbv;rw[zB] at e2;obtain⟨m,hm⟩:∃ m,lems[(n-1).toNat]?=some m:=zY (by exact om);have hat':=hat m oM (by exact om) hm;have hms:=hss m (z8 hm);have cc:=Dw m.v hms;have idx:∀ {K:List PV->Prop},K (lc m)->IdxOk 6 (λ_=>enc lc lems) (λ_=>n-1) K:=λhK=>wE (l:=lems) (n-1).toNat oM (by exact om) qI jO (λm' hm'=>by grind);generalize hq:m.v.q=q at *;obtain⟨mu,mup,⟨v1,v2,v3⟩,mpf⟩:=m;simp only at hat';clear hat hno hq;generalize hwq:zI q=wq at *;refine⟨zF om om,idx ?_⟩;cbv;refine zU (λe3=>?_) (λe3=>?_);{cbv;refine⟨zF om om,idx ?_⟩;cbv;refine zH (λe4=>?_) (λe4=>?_);{cbv;obtain⟨g1,g2⟩:=fin2 q (by grind);rw[hwq] at g1;subst g1 g2;refine⟨zF om om,idx ?_⟩;cbv;refine cA cc ?_;cbv;exact rA};{cbv;obtain⟨g1,g2,g3,g4⟩:=fin3 (by grind);subst g1 g2 g3 g4;exact rA}};{cbv;obtain⟨g1,g2,g3,g4⟩:=fin3 (by grind);subst g1 g2 g3 g4;exact rA}
def Scp.dcd (s:Scp) (kind unit:Int):Bool:=s.path.any λd=>decide (d.k=kind)&&(decide (d.i=unit)&&d.fits s.q)
def Rw (s:Scp)(kind unit:Int)(d:Dec)(hd:d.x.sz (2^36)):zE 192 [.agg (dc d),.dptr [iV kind] 0,.dptr [iV unit] 0,.dptr (sc s) 0] (zM (decide (d.k=kind)&&(decide (d.i=unit)&&d.fits s.q))):=by
 refine sF Tryz.f192 ?_;have cf:=KS s.q d hd;generalize d.fits s.q=ft at *;obtain⟨⟨⟨gn,us,os⟩,⟨lo,hi,rows⟩,⟨ts,c1,c2,c3⟩⟩,path,lems⟩:=s;obtain⟨k,i,x1,x2,x3⟩:=d;generalize hr:(decide (k=kind)&&(decide (i=unit)&&ft))=r;cbv;refine zU (λe1=>?_) (λe1=>?_)
 ·rw[decide_eq_true e1,yU] at hr;cbv;refine zU (λe2=>?_) (λe2=>?_)
  ·rw[decide_eq_true e2,yU] at hr;cbv;refine cA cf ?_;cbv
   (refine rC ?_;cbv)
   exact z4 hr
  ·rw[decide_eq_false e2] at hr;cbv
   (refine rC ?_;cbv)
   exact zN hr.symm
 ·rw[decide_eq_false e1] at hr;cbv
  (refine rC ?_;cbv)
  exact zN hr.symm
def ZP (s:Scp)(kind unit:Int)(hs:Dsz (2^36) s.path):zE 140 [sv s,iV kind,iV unit] (zM (s.dcd kind unit)):=by refine sF Tryz.f140 ?_;have c1:=Lv (λd=>decide (d.k=kind)&&(decide (d.i=unit)&&d.fits s.q)) s.path (gM hs.len (by decide)) 192 [.dptr [iV kind] 0,.dptr [iV unit] 0,.dptr (sc s) 0] (λd hd=>Rw s kind unit d (hs.sz d hd));have e:(s.path.any λd=>decide (d.k=kind)&&(decide (d.i=unit)&&d.fits s.q))=s.dcd kind unit:=rfl;rw[e] at c1;generalize s.dcd kind unit=r at *;obtain⟨⟨⟨gn,us,os⟩,⟨lo,hi,rows⟩,⟨ts,c1',c2,c3⟩⟩,path,lems⟩:=s;cbv;refine j2 (.trans (.frz 3 rfl rfl (by repeat' first|exact trivial|apply And.intro) (by repeat' first|exact trivial|apply And.intro)) (.trans (.frz 4 rfl rfl (by repeat' first|exact trivial|apply And.intro) (by repeat' first|exact trivial|apply And.intro)) (.frz 5 rfl rfl (by repeat' first|exact trivial|apply And.intro) (by repeat' first|exact trivial|apply And.intro)))) rfl (by exact⟨lR,⟨rfl,lR,lR,lR,trivial⟩,trivial⟩) c1 rfl ?_;cbv;exact rA
abbrev usv (s:Scp) (r:Row) (v p:A) (l u:R) (low top:Bool):PV:=.agg [iV s.q.g.n,alv s.q.g.us,alv s.q.g.os,rlv s.q.r.lo,rlv s.q.r.hi,alv s.q.r.rows,tsv s.q.goal.ts,zM s.q.goal.c.neg,nat s.q.goal.c.num,nat s.q.goal.c.den,dlv s.path,llv s.lems,
 (iV r.k),iV r.i,iV r.lo,iV r.hi,tsv v.ts,zM v.c.neg,nat v.c.num,nat v.c.den,tsv p.ts,zM p.c.neg,nat p.c.num,nat p.c.den,
 (zM l.neg),nat l.num,nat l.den,zM u.neg,nat u.num,nat u.den,zM low,zM top]
def onB (s:Scp) (r:Row) (l:Rat) (low:Bool):Bool:=decide (r.hi=0)&&((decide (r.lo=0)&&s.dcd 1 r.i) || (low&&decide (0<=yF l)))
def m0 (s:Scp) (r:Row) (u:Rat) (top:Bool):Bool:=decide (r.lo=0)&&((decide (r.hi=0)&&s.dcd 2 r.i) || (top&&decide (yF u<=0)))
def Lh (s:Scp)(r:Row)(v p:A)(l u:R)(low top:Bool)(hs:Dsz (2^36) s.path)(hx:l.num.length<2^40):zE 142 [usv s r v p l u low top] (zM (onB s r l.q low)):=by
 refine sF Tryz.f142 ?_;have cd:=ZP s 1 r.i hs;have cs:=s86 l hx;generalize hres:onB s r l.q low=res;have hr:res=(decide (r.hi=0)&&((decide (r.lo=0)&&s.dcd 1 r.i) || (low&&decide (0<=yF l.q)))):=hres.symm;clear hres hs;generalize s.dcd 1 r.i=dd at *;generalize yF l.q=sg at *;obtain⟨⟨⟨gn,us,os⟩,⟨lo,hi,rows⟩,⟨ts,c1,c2,c3⟩⟩,path,lems⟩:=s;obtain⟨k,i,rlo,rhi⟩:=r;obtain⟨vt,v1,v2,v3⟩:=v;obtain⟨pt,p1,p2,p3⟩:=p;obtain⟨l1,l2,l3⟩:=l;obtain⟨u1,u2,u3⟩:=u;simp only at hr;cbv;refine Ql ?_;cbv;refine zU (λe1=>?_) (λe1=>?_)
 ·rw[decide_eq_true e1,yU] at hr;cbv;refine zU (λe2=>?_) (λe2=>?_)
  ·rw[decide_eq_true e2,yU] at hr;cbv;refine cA cd ?_;cbv;refine yH (λe3=>?_) (λe3=>?_)
   ·rw[e3,Bool.true_or] at hr;cbv
    (refine rC ?_;cbv)
    exact yL hr
   ·rw[e3,rU] at hr;cbv;refine yH (λe4=>?_) (λe4=>?_)
    ·rw[e4,yU] at hr;cbv;refine cA cs ?_;cbv
     (refine rC ?_;cbv)
     exact z4 hr.symm
    ·rw[e4,s9] at hr;cbv
     (refine rC ?_;cbv)
     exact zN hr
  ·rw[decide_eq_false e2,s9,rU] at hr;cbv;refine yH (λe4=>?_) (λe4=>?_)
   ·rw[e4,yU] at hr;cbv;refine cA cs ?_;cbv
    (refine rC ?_;cbv)
    exact z4 hr.symm
   ·rw[e4,s9] at hr;cbv
    (refine rC ?_;cbv)
    exact zN hr
 ·rw[decide_eq_false e1,s9] at hr;cbv
  (refine rC ?_;cbv)
  exact zN hr
def Ml (s:Scp)(r:Row)(v p:A)(l u:R)(low top:Bool)(hs:Dsz (2^36) s.path)(hx:u.num.length<2^40):zE 143 [usv s r v p l u low top] (zM (m0 s r u.q top)):=by
 refine sF Tryz.f143 ?_;have cd:=ZP s 2 r.i hs;have cs:=s86 u hx;generalize hres:m0 s r u.q top=res;have hr:res=(decide (r.lo=0)&&((decide (r.hi=0)&&s.dcd 2 r.i) || (top&&decide (yF u.q<=0)))):=hres.symm;clear hres hs;generalize s.dcd 2 r.i=dd at *;generalize yF u.q=sg at *;obtain⟨⟨⟨gn,us,os⟩,⟨lo,hi,rows⟩,⟨ts,c1,c2,c3⟩⟩,path,lems⟩:=s;obtain⟨k,i,rlo,rhi⟩:=r;obtain⟨vt,v1,v2,v3⟩:=v;obtain⟨pt,p1,p2,p3⟩:=p;obtain⟨l1,l2,l3⟩:=l;obtain⟨u1,u2,u3⟩:=u;simp only at hr;cbv;refine Ql ?_;cbv;refine zU (λe1=>?_) (λe1=>?_)
 ·rw[decide_eq_true e1,yU] at hr;cbv;refine zU (λe2=>?_) (λe2=>?_)
  ·rw[decide_eq_true e2,yU] at hr;cbv;refine cA cd ?_;cbv;refine yH (λe3=>?_) (λe3=>?_)
   ·rw[e3,Bool.true_or] at hr;cbv
    (refine rC ?_;cbv)
    exact yL hr
   ·rw[e3,rU] at hr;cbv;refine yH (λe4=>?_) (λe4=>?_)
    ·rw[e4,yU] at hr;cbv;refine cA cs ?_;cbv
     (refine rC ?_;cbv)
     exact z4 hr.symm
    ·rw[e4,s9] at hr;cbv
     (refine rC ?_;cbv)
     exact zN hr
  ·rw[decide_eq_false e2,s9,rU] at hr;cbv;refine yH (λe4=>?_) (λe4=>?_)
   ·rw[e4,yU] at hr;cbv;refine cA cs ?_;cbv
    (refine rC ?_;cbv)
    exact z4 hr.symm
   ·rw[e4,s9] at hr;cbv
    (refine rC ?_;cbv)
    exact zN hr
 ·rw[decide_eq_false e1,s9] at hr;cbv
  (refine rC ?_;cbv)
  exact zN hr
def yT {α:Type}{p:α->List PV}{n:Nat}{l:List α}{i:Nat}{a:α}{K:List PV->Prop}(h:l[i]?=some a)(hf:∀ a,y4 qV (p a)=true)(hn:∀ a,(p a).length=n)(hK:K (p a)):IdxOk n (λ_=>enc p l) (λ_=>(i:Int)) K :=
 wE (l:=l) i rfl (wI.1 h).1 hf hn (λa' ha'=>by rw[h] at ha';cases ha';exact hK)
def vN {α:Type}{p:α->List PV}{n:Nat}{l:List α}{i:Nat}{k:Int}{a:α}{K:List PV->Prop}(h:l[i]?=some a)(hk:k=(i:Int))(hf:∀ a,y4 qV (p a)=true)(hn:∀ a,(p a).length=n)(hK:K (p a)):IdxOk n (λ_=>enc p l) (λ_=>k) K :=
 wE (l:=l) i hk (wI.1 h).1 hf hn (λa' ha'=>by rw[h] at ha';cases ha';exact hK)
def gL {α:Type}{p:α->List PV}{l:List α}{i:Nat}(h:(i:Int)<((enc p l).length:Int)):i<l.length:=by rw[zB] at h;omega
def r9 {α:Type}{p:α->List PV}{l:List α}{i:Nat}(h:¬(i:Int)<((enc p l).length:Int))(h2:i<=l.length):i=l.length:=by rw[zB] at h;omega
def Yu {rs:List ResultVar}{r:PV}{ps ps':PS}{n:Nat}{o:Obj'}(hw:Wk ps ps')(h3:lv r=true)(h4:yK ps'.objs n=some o)(h5:bR o=true)(h6:Nat.ble 1000000 n=true)(h:match cE ps' rs with
  |some l=>les (mZ l) (ren id r)| none=>False):RetOk rs r [(n,o)] [] ps:=by
 cases h1:cE ps' rs with
 |none=>rw[h1] at h;exact h.elim| some l=>rw[h1] at h;exact⟨ps',l,id,hw,h1,bB h,h3,⟨⟨by rw[Wn];exact h4,h5⟩,trivial⟩,rfl,⟨rfl,Nat.le_of_ble_eq_true h6⟩,trivial⟩
def Qa (a:A)(vars:Int)(ha:a.sz (2^32)):zE 28 [av a,iV vars] (zM (a.valid vars)):=by
 refine sF Tryz.f28 ?_;obtain⟨ts,c⟩:=a;have hl:=ha.t.len;have hts:=ha.t.sz;have cc:=HO c ha.c;generalize hr:A.valid vars ⟨ts,c⟩=r;have hr0:r=(vT vars (-1) ts&&c.ok):=hr.symm;simp only at hl hts cc;generalize c.ok=co at *;clear hr ha;cbv;refine zZ (σ:=Nat×Int) (λs=>⟨[(1,iV vars),(2,.ptr 2 0),(5,iV s.1)],[(2,.box [tsv ts,zM c.neg,nat c.num,nat c.den])]⟩)
  (λs=>s.1<=ts.length/\r=(vT vars s.2 (ts.drop s.1)&&co)/\(s.1=0->s.2=-1)/\(s.1≠0->∃ u,ts[s.1-1]?=some u/\u.1=s.2)) (λs=>ts.length-s.1)
  (0,-1) ⟨om,hr0,λ_=>rfl,λh=>absurd rfl h⟩ (wkZ) ?_
 intro s hs;obtain⟨h1,hv,h3,h4⟩:=hs;generalize s.1=i at *;generalize s.2=p at *;cbv;refine zH (λh5=>?_) (λh5=>?_)
 ·(obtain⟨t,ht⟩:=zY (gL h5);rw[yI ht,oF] at hv;have htz:=hts t (z8 ht);have cs:=s35 t.2 (by have:=htz.n;omega);have cv:=HO t.2 htz;have hq:decide (t.2.q≠0)=decide (yF t.2.q≠0):=by rw[decide_eq_decide];exact sgnQ_ne.symm);rw[hq] at hv
  (generalize yF t.2.q=sg at *;generalize hok:t.2.ok=ok at *;generalize hrest:(vT vars t.1 (ts.drop (i+1))&&co)=rest;have hv':r=(decide (0<=t.1)&&decide (t.1<vars)&&decide (p<t.1)&&decide (sg≠0)&&ok&&rest):=by grind);have hi0:i<2^38:=by omega
  clear hv;cbv;refine yT ht xX xW ?_;cbv;refine zP 37 (by cbv) ?_;cbv;refine zU (λe1=>?_) (λe1=>?_)
  ·cbv
   (refine rC ?_;cbv)
   exact zN (by grind)
  cbv;refine zU (λe2=>?_) (λe2=>?_)
  ·cbv
   (refine rC ?_;cbv)
   exact zN (by grind)
  (cbv;have fin:(¬(p<t.1)->r=false):=λh=>by grind);have hmain:(p<t.1)->r=(decide (sg≠0)&&ok&&rest):=λh=>by grind
  clear hv';have tail:r=(decide (sg≠0)&&ok&&rest)->True:=λ_=>trivial;refine zU (λe3=>?_) (λe3=>?_)
  ·obtain⟨u,hu,hu2⟩:=h4 om;cbv;refine⟨zF om om,vN hu om xX xW ?_⟩;cbv;refine zU (λe4=>?_) (λe4=>?_)
   ·cbv
    (refine rC ?_;cbv)
    exact zN (fin oM)
   have hm:=hmain oM;cbv;refine dA cs ?_;cbv;refine zU (λe5=>?_) (λe5=>?_)
   ·cbv
    (refine rC ?_;cbv)
    exact zN (by grind)
   rw[decide_eq_true e5,yU] at hm;cbv;refine dA cv ?_;cbv;refine zS (λe6=>?_) (λe6=>?_);{rw[e6,yU] at hm;cbv;exact⟨zF om om,(i+1,t.1),⟨by grind,by grind,λh=>absurd h (by simp),λ_=>⟨_,ht,rfl⟩⟩,by grind,wkZ⟩}
   ·cbv
    (refine rC ?_;cbv)
    exact zN (by grind)
  ·have hp:=h3 om;have hm:=hmain oM;cbv;refine dA cs ?_;cbv;refine zU (λe5=>?_) (λe5=>?_)
   ·cbv
    (refine rC ?_;cbv)
    exact zN (by grind)
   rw[decide_eq_true e5,yU] at hm;cbv;refine dA cv ?_;cbv;refine zS (λe6=>?_) (λe6=>?_);{rw[e6,yU] at hm;cbv;exact⟨zF om om,(i+1,t.1),⟨by grind,by grind,λh=>absurd h (by simp),λ_=>⟨_,ht,rfl⟩⟩,by grind,wkZ⟩}
   ·cbv
    (refine rC ?_;cbv)
    exact zN (by grind)
 ·(have he:=r9 h5 h1;rw[he,w5] at hv;have hv':r=co:=by rw[hv];rfl);cbv
  refine cA cc ?_;cbv
  (refine rC ?_;cbv)
  exact z4 hv'.symm
def Li (l:List A)(vars:Int)(hl:Asz (2^32) l):zE 107 [alv l,iV vars] (zM (l.all (A.valid vars))):=by
 refine sF Tryz.f107 ?_;have hll:=hl.len;have hls:=hl.sz;have hc:∀ a,a∈l->zE 28 [av a,iV vars] (zM (a.valid vars)):=λa h=>Qa a vars (hls a h);obtain⟨P,hP⟩:=ex (A.valid vars);rw[hP] at hc ⊢;generalize hr:l.all P=r;have hr0:r=(l.drop 0).all P:=hr.symm;clear hr hls hl;cbv;refine zZ (σ:=Nat) (λi=>⟨[(0,alv l),(1,iV vars),(5,iV i)],[]⟩) (λi=>i<=l.length/\r=(l.drop i).all P) (λi=>l.length-i) 0 ⟨by omega,hr0⟩ (wkZ) ?_;intro i hi;obtain⟨h1,h2⟩:=hi;cbv;refine zH (λh5=>?_) (λh5=>?_)
 ·have hlt:=gL h5;obtain⟨a,ha⟩:=zY hlt;have ca:=hc a (z8 ha);rw[yI ha,YO] at h2;generalize P a=pa at *;generalize hrest:(l.drop (i+1)).all P=rest at *;cbv;refine yT ha vP qD ?_;cbv;refine cA ca ?_;cbv;refine zS (λe=>?_) (λe=>?_);{cbv;exact⟨zF om om,i+1,⟨om,by grind⟩,om,wkZ⟩}
  ·cbv
   (refine rC ?_;cbv)
   exact zN (by grind)
 ·have he:=r9 h5 h1;rw[he,w5] at h2;have h2':r=true:=h2;cbv
  (refine rC ?_;cbv)
  exact yL h2'
def Lj (l:List R)(hl:Rsz (2^32) l):zE 146 [rlv l] (zM (l.all R.ok)):=by
 refine sF Tryz.f146 ?_;have hll:=hl.len;have hls:=hl.sz;have hc:∀ a,a∈l->zE 71 [rv a] (zM a.ok):=λa h=>HO a (hls a h);obtain⟨P,hP⟩:=ex R.ok;rw[hP] at hc ⊢;generalize hr:l.all P=r;have hr0:r=(l.drop 0).all P:=hr.symm;clear hr hls hl;cbv;refine zZ (σ:=Nat) (λi=>⟨[(0,rlv l),(3,iV i)],[]⟩) (λi=>i<=l.length/\r=(l.drop i).all P) (λi=>l.length-i) 0 ⟨by omega,hr0⟩ (wkZ) ?_;intro i hi;obtain⟨h1,h2⟩:=hi;cbv;refine zH (λh5=>?_) (λh5=>?_)
 ·have hlt:=gL h5;obtain⟨a,ha⟩:=zY hlt;have ca:=hc a (z8 ha);rw[yI ha,YO] at h2;generalize P a=pa at *;generalize hrest:(l.drop (i+1)).all P=rest at *;cbv;refine yT ha w4 uC ?_;cbv;refine cA ca ?_;cbv;refine zS (λe=>?_) (λe=>?_);{cbv;exact⟨zF om om,i+1,⟨om,by grind⟩,om,wkZ⟩}
  ·cbv
   (refine rC ?_;cbv)
   exact zN (by grind)
 ·have he:=r9 h5 h1;rw[he,w5] at h2;have h2':r=true:=h2;cbv
  (refine rC ?_;cbv)
  exact yL h2'
def Bb (g:Grp)(hg:g.sz (2^32)):zE 56 [gv g] (zM g.valid):=by
 refine sF Tryz.f56 ?_;obtain⟨n,us,os⟩:=g;have hus:=hg.us;have hos:=hg.os;have hc:∀ a,a∈us->∀ k,zE 28 [av a,iV k] (zM (a.valid k)):=λa h k=>Qa a k (hus.sz a h);have ca:=Li os (n+us.length) hos;have hul:=hus.len;have hol:=hos.len;dsimp only at hul hol;generalize hr:Grp.valid ⟨n,us,os⟩=r;have hr0:r=(decide (1<=n/\n<=256/\us.length<=1024/\1<=os.length/\os.length<=256)&&vU n us&&os.all (A.valid (n+us.length))):=hr.symm;obtain⟨U,hU⟩:=ex vU;have hU0:∀ k,U k []=true:=λk=>by rw[<-hU];rfl
 have hU1:∀ k f l,U k (f::l)=(f.valid k&&U (k+1) l):=λk f l=>by rw[<-hU];rfl
 rw[hU] at hr0;generalize os.all (A.valid (n+us.length))=oa at *;have hf:¬(1<=n/\n<=256/\us.length<=1024/\1<=os.length/\os.length<=256)->r=false:=λh=>by grind
 have ht:(1<=n/\n<=256/\us.length<=1024/\1<=os.length/\os.length<=256)->r=(U n us&&oa):=λh=>by grind
 clear hr hr0 hU hg hus hos;cbv;refine zU (λe1=>?_) (λe1=>?_)
 ·cbv
  (refine rC ?_;cbv)
  exact zN (hf okQ)
 cbv;refine zU (λe2=>?_) (λe2=>?_)
 ·cbv
  (refine rC ?_;cbv)
  exact zN (hf okQ)
 cbv;refine zU (λe3=>?_) (λe3=>?_)
 ·cbv
  (refine rC ?_;cbv)
  exact zN (hf okQ)
 cbv;refine zU (λe4=>?_) (λe4=>?_)
 ·cbv
  (refine rC ?_;cbv)
  exact zN (hf okQ)
 cbv;refine zH (λe5=>?_) (λe5=>?_)
 ·cbv
  (refine rC ?_;cbv)
  exact zN (hf okQ)
 have hv:=ht okQ;have hn1:1<=n:=okQ;have hn2:n<=256:=okQ;have hu2:us.length<=1024:=okQ;clear ht hf e1 e2 e3 e4 e5;cbv;refine zZ (σ:=Nat) (λi=>⟨[(1,.ptr 1 0),(3,iV i)],[(1,.box [iV n,alv us,alv os])]⟩) (λi=>i<=us.length/\r=(U (n+i) (us.drop i)&&oa)) (λi=>us.length-i) 0 ⟨by omega,by grind⟩ (wkZ) ?_;clear hv;intro i hi;obtain⟨h1,h2⟩:=hi;cbv;refine zH (λh5=>?_) (λh5=>?_)
 ·(have hlt:=gL h5;obtain⟨a,ha⟩:=zY hlt;have cv:=hc a (z8 ha) (n+i);rw[yI ha,hU1] at h2;generalize a.valid (n+i)=pa at *;generalize hrest:U (n+i+1) (us.drop (i+1))=rest at *;have hrest':U (n+((i+1:Nat):Int)) (us.drop (i+1))=rest:=by grind);cbv
  refine zP 9 (by cbv) ?_;cbv;refine yT ha vP qD ?_;cbv;refine⟨zF om om,?_⟩;cbv;refine cA cv ?_;cbv;refine zS (λe=>?_) (λe=>?_);{cbv;exact⟨zF om om,i+1,⟨om,by grind⟩,om,wkZ⟩}
  ·cbv
   (refine rC ?_;cbv)
   exact zN (by grind)
 ·have he:=r9 h5 h1;rw[he,w5,hU0] at h2;have h2':r=oa:=h2;cbv;refine⟨zF okQ okQ,?_⟩;cbv;refine xE rfl (by refine⟨lR,zG ?_,trivial⟩;rw[zB]) ca rfl ?_;cbv
  (refine rC ?_;cbv)
  exact z4 h2'.symm
def XJ (g:Grp)(hg:g.sz (2^32)):zE 36 [gv g] (iV (if g.valid=true then g.vars else 0)):=by
 refine sF Tryz.f36 ?_;have cv:=Bb g hg;have hb:g.valid=true->1<=g.n/\g.n<=256/\g.us.length<=1024:=λh=>by unfold Grp.valid at h;grind
 have hd:g.vars=g.n+g.us.length:=rfl;generalize g.vars=w at *;generalize g.valid=b at *;obtain⟨n,us,os⟩:=g;dsimp only at hb hd;cbv;refine cA cv ?_;cbv;refine zS (λe=>?_) (λe=>?_)
 ·have hb':=hb e;cbv;refine⟨zF okQ okQ,?_⟩;cbv
  (refine rC ?_;cbv)
  exact zG (by rw[zB,if_pos e,hd])
 ·cbv
  (refine rC ?_;cbv)
  exact zG (by grind)
def cB:List R->List R->Bool
 |l::ls,h::hs=>decide (wN l.q h.q<=0)&&cB ls hs| _,_=>true
def Xo:∀ {lo hi:List R},lo.length=hi.length->vB lo hi=(lo.all R.ok&&(hi.all R.ok&&cB lo hi))
 |[],[],_=>rfl| l::ls,h::hs,e=>by have ih:=Xo (lo:=ls) (hi:=hs) (by grind);grind [GD,cB]| [],h::hs,e=>by simp at e| l::ls,[],e=>by simp at e
def PU (g:Reg)(n:Int)(hg:g.sz (2^31)):zE 86 [rgv g,iV n] (zM (g.valid n)):=by
 refine sF Tryz.f86 ?_;obtain⟨lo,hi,rows⟩:=g;have cl:=Lj lo (hg.lo.mono (by decide));have ch:=Lj hi (hg.hi.mono (by decide));have cr:=Li rows n (hg.rows.mono (by decide));have hlo:=hg.lo.sz;have hhi:=hg.hi.sz;have hll:=hg.lo.len;have hhl:=hg.hi.len;have hrl:=hg.rows.len;dsimp only at hlo hhi hll hhl hrl;have cc:∀ a b,a∈lo->b∈hi->zE 47 [rv a,rv b] (iV (wN a.q b.q)):=λa b h1 h2=>s42 a b (hlo a h1) (hhi b h2);generalize hr:Reg.valid n ⟨lo,hi,rows⟩=r;have hr0:r=(decide (1<=n/\n<=256/\(lo.length:Int)=n/\(hi.length:Int)=n/\rows.length<=256)&&vB lo hi&&rows.all (A.valid n)):=hr.symm;have hf:¬(1<=n/\n<=256/\(lo.length:Int)=n/\(hi.length:Int)=n/\rows.length<=256)->r=false:=λh=>by grind
 have ht:(1<=n/\n<=256/\(lo.length:Int)=n/\(hi.length:Int)=n/\rows.length<=256)->r=(lo.all R.ok&&(hi.all R.ok&&cB lo hi)&&rows.all (A.valid n)):=λh=>by rw[hr0,decide_eq_true h,yU,Xo oM]
 obtain⟨C,hC⟩:=ex cB;have hC0:C [] []=true:=by rw[<-hC];rfl
 have hC1:∀ a l b m,C (a::l) (b::m)=(decide (wN a.q b.q<=0)&&C l m):=λ_ _ _ _=>by rw[<-hC];rfl
 rw[hC] at ht;generalize lo.all R.ok=la at *;generalize hi.all R.ok=ha at *;generalize rows.all (A.valid n)=ra at *;clear hr hr0 hC hlo hhi hg;cbv;refine zU (λe1=>?_) (λe1=>?_)
 ·cbv
  (refine rC ?_;cbv)
  exact zN (hf okQ)
 cbv;refine zU (λe2=>?_) (λe2=>?_)
 ·cbv
  (refine rC ?_;cbv)
  exact zN (hf okQ)
 cbv;refine zU (λe3=>?_) (λe3=>?_)
 rotate_left
 ·cbv
  (refine rC ?_;cbv)
  exact zN (hf okQ)
 cbv;refine zU (λe4=>?_) (λe4=>?_)
 rotate_left
 ·cbv
  (refine rC ?_;cbv)
  exact zN (hf okQ)
 cbv;refine zH (λe5=>?_) (λe5=>?_)
 ·cbv
  (refine rC ?_;cbv)
  exact zN (hf okQ)
 have hv:=ht okQ;have hn1:1<=n:=okQ;have hn2:n<=256:=okQ;have hn3:(lo.length:Int)=n:=okQ;have hn4:(hi.length:Int)=n:=okQ;clear ht hf e1 e2 e3 e4 e5;cbv;refine cA cl ?_;cbv;refine yH (λe=>?_) (λe=>?_)
 rotate_left
 ·cbv
  (refine rC ?_;cbv)
  exact zN (by grind)
 rw[e,yU] at hv;cbv;refine cA ch ?_;cbv;refine yH (λe=>?_) (λe=>?_)
 rotate_left
 ·cbv
  (refine rC ?_;cbv)
  exact zN (by grind)
 rw[e,yU] at hv;cbv;refine cA cr ?_;cbv;refine zS (λe=>?_) (λe=>?_)
 rotate_left
 ·cbv
  (refine rC ?_;cbv)
  exact zN (by grind)
 rw[e,Bool.and_true] at hv;cbv;refine zZ (σ:=Nat) (λi=>⟨[(1,iV n),(2,.ptr 2 0),(5,iV i)],[(2,.box [rlv lo,rlv hi,alv rows])]⟩) (λi=>i<=lo.length/\r=C (lo.drop i) (hi.drop i)) (λi=>lo.length-i) 0 ⟨by omega,hv⟩ (wkZ) ?_;clear hv;intro i hi';obtain⟨h1,h2⟩:=hi';cbv;refine zH (λh5=>?_) (λh5=>?_)
 ·have hlt:i<lo.length:=okQ;obtain⟨a,ha⟩:=zY hlt;obtain⟨b,hb⟩:=zY (l:=hi) (i:=i) okQ;have cv:=cc a b (z8 ha) (z8 hb);rw[yI ha,yI hb,hC1] at h2;generalize wN a.q b.q=cq at *;generalize hrest:C (lo.drop (i+1)) (hi.drop (i+1))=rest at *;cbv;refine zP 10 (by cbv) ?_;cbv;refine yT ha w4 uC ?_;cbv;refine yT hb w4 uC ?_;cbv;refine cA cv ?_;cbv;refine zH (λe=>?_) (λe=>?_)
  ·cbv
   (refine rC ?_;cbv)
   exact zN (by grind)
  {cbv;exact⟨zF om om,i+1,⟨om,by grind⟩,om,wkZ⟩}
 ·have he:i=lo.length:=okQ;have he2:i=hi.length:=okQ;rw[show lo.drop i=[] by grind,show hi.drop i=[] by grind,hC0] at h2;cbv
  (refine rC ?_;cbv)
  exact yL h2
def Yr (q:Qry)(hq:q.sz (2^31)):zE 37 [qv q] (zM q.valid):=by
 refine sF Tryz.f37 ?_;have c1:=Bb q.g (hq.g.mono (by decide));have c2:=PU q.r q.g.n hq.r;have c3:=XJ q.g (hq.g.mono (by decide));have c4:=Qa q.goal q.g.vars (hq.goal.mono (by decide));have hr:q.valid=(q.g.valid&&q.r.valid q.g.n&&q.goal.valid q.g.vars):=rfl;generalize q.valid=r at *;generalize q.g.valid=b1 at *;generalize q.r.valid q.g.n=b2 at *;generalize q.goal.valid q.g.vars=b3 at *;generalize q.g.vars=w at *;obtain⟨⟨n,us,os⟩,⟨lo,hi,rows⟩,⟨ts,x1,x2,x3⟩⟩:=q;cbv;refine zP 19 (by cbv) ?_;cbv;refine dA c1 ?_;cbv;refine yH (λe=>?_) (λe=>?_)
 rotate_left
 ·cbv
  (refine rC ?_;cbv)
  exact zN (by grind)
 rw[e,yU] at hr;cbv;refine dA c2 ?_;cbv;refine yH (λe2=>?_) (λe2=>?_)
 rotate_left
 ·cbv
  (refine rC ?_;cbv)
  exact zN (by grind)
 rw[e2,yU] at hr;cbv;refine dA c3 ?_;cbv;refine wH (by exact⟨okA,zG (if_pos e),trivial⟩) c4 rfl ?_;cbv
 (refine rC ?_;cbv)
 exact z4 hr.symm
def HH (q:Qry)(d:Dec)(hd:d.x.sz (2^32)):zE 92 [qv q,dv d] (zM (d.fits q)):=by
 refine sF Tryz.f92 ?_;have cz:=s69 d.x R0 hd ⟨by decide,by decide⟩;have cv:=HO d.x hd;have hr:d.fits q=if d.k=1\/d.k=2 then decide (0<=d.i/\d.i<q.g.us.length)&&decide (d.x=R0) else if d.k=3\/d.k=4 then decide (0<=d.i/\d.i<q.g.n)&&d.x.ok else false:=rfl
 generalize d.fits q=r at *;generalize decide (d.x=R0)=z at *;generalize d.x.ok=ok at *;obtain⟨⟨n,us,os⟩,⟨lo,hi,rows⟩,⟨ts,c1,c2,c3⟩⟩:=q;obtain⟨k,i,x1,x2,x3⟩:=d;simp only at hr;have u1:∀ (hk:k=1\/k=2),(0<=i->i<us.length->r=z)/\(¬(0<=i/\i<us.length)->r=false):=λhk=>by grind
 have u2:∀ (hk:k=3\/k=4),(0<=i->i<n->r=ok)/\(¬(0<=i/\i<n)->r=false):=λhk=>by grind
 have u3:¬(k=1\/k=2\/k=3\/k=4)->r=false:=λhk=>by grind
 clear hr;cbv;have hk:(k=1\/k=2)\/(k=3\/k=4)\/(k<=0\/5<=k):=by omega
 rcases hk with hk|hk|hk
 ·obtain⟨v1,v2⟩:=u1 hk;clear u1 u2 u3;refine jZ (σ:=Unit) (λ_=>⟨[(2,.ptr 2 0),(3,.ptr 3 0),(6,iV k),(7,.tt)],[(2,.box [iV n,alv us,alv os,rlv lo,rlv hi,alv rows,tsv ts,zM c1,nat c2,nat c3]),(3,.box [iV k,iV i,zM x1,nat x2,nat x3])]⟩) (λ_=>True) (λe=>?_) (λe=>?_) (λ_ _=>?_);{cbv;exact⟨(),trivial,.le (by cbv;exact⟨lR,lR,lR,⟨by simp only[Le,decide_eq_true_eq];exact e⟩,trivial⟩) okZ rfl⟩};{cbv;exact⟨(),trivial,.le (by cbv;exact⟨lR,lR,lR,⟨by simp only[Le,decide_eq_true_eq];exact om⟩,trivial⟩) okZ rfl⟩}
  ·cbv;refine zU (λe1=>?_) (λe1=>?_)
   ·cbv;refine zU (λe2=>?_) (λe2=>?_)
    ·cbv;refine cA cz ?_;cbv
     (refine rC ?_;cbv)
     exact z4 (by rw[v1 okQ okQ])
    ·cbv
     (refine rC ?_;cbv)
     exact zN (v2 okQ)
   ·cbv
    (refine rC ?_;cbv)
    exact zN (v2 okQ)
 ·obtain⟨v1,v2⟩:=u2 hk;clear u1 u2 u3;refine yE (by exact om) ?_;cbv;refine yE (by exact om) ?_;cbv;refine jZ (σ:=Unit) (λ_=>⟨[(2,.ptr 2 0),(3,.ptr 3 0),(28,.tt)],[(2,.box [iV n,alv us,alv os,rlv lo,rlv hi,alv rows,tsv ts,zM c1,nat c2,nat c3]),(3,.box [iV k,iV i,zM x1,nat x2,nat x3])]⟩) (λ_=>True) (λe=>?_) (λe=>?_) (λ_ _=>?_);{cbv;exact⟨(),trivial,.le (by cbv;exact⟨lR,lR,⟨by simp only[Le,decide_eq_true_eq];exact e⟩,trivial⟩) okZ rfl⟩};{cbv;exact⟨(),trivial,.le (by cbv;exact⟨lR,lR,⟨by simp only[Le,decide_eq_true_eq];exact om⟩,trivial⟩) okZ rfl⟩}
  ·cbv;refine zU (λe1=>?_) (λe1=>?_)
   ·cbv;refine zU (λe2=>?_) (λe2=>?_)
    ·cbv;refine cA cv ?_;cbv
     (refine rC ?_;cbv)
     exact z4 (by rw[v1 okQ okQ])
    ·cbv
     (refine rC ?_;cbv)
     exact zN (v2 okQ)
   ·cbv
    (refine rC ?_;cbv)
    exact zN (v2 okQ)
 ·have hr:=u3 oM;refine yE (by exact om) ?_;cbv;refine yE (by exact om) ?_;cbv;refine yE (by exact om) ?_;cbv;refine yE (by exact om) ?_;cbv
  (refine rC ?_;cbv)
  exact zN hr
def PQ (q:Qry)(d:Dec)(hq:q.sz (2^31))(hd:d.x.sz (2^32)):zE 48 [qv q,dv d] (zM (q.valid&&d.fits q)):=by
 refine sF Tryz.f48 ?_;have c1:=Yr q hq;have c2:=HH q d hd;generalize hr:(q.valid&&d.fits q)=r;generalize q.valid=b1 at *;generalize d.fits q=b2 at *;obtain⟨⟨n,us,os⟩,⟨lo,hi,rows⟩,⟨ts,x1,x2,x3⟩⟩:=q;obtain⟨k,i,y1,y2,y3⟩:=d;cbv;refine cA c1 ?_;cbv;refine yH (λe=>?_) (λe=>?_)
 ·cbv;refine cA c2 ?_;cbv
  (refine rC ?_;cbv)
  exact z4 (by grind)
 ·cbv
  (refine rC ?_;cbv)
  exact zN (by grind)
def cI (x y:Int):Int:=if x<y then -1 else if y<x then 1 else 0
def orI (x y:Int):Int:=if x≠0 then x else y
def dV (a b:Row):Int:=orI (cI a.k b.k) (orI (cI a.i b.i) (orI (cI a.lo b.lo) (cI a.hi b.hi)))
def B9 {b:Bool}(h:b=true):LeS (.nbool (λ_=>b)) .ff:=⟨by simp[Le,h]⟩
def Lq (x:Int):zE 245 [iV x] .ff:=by
 refine sF Tryz.f245 ?_;cbv
 (refine rC ?_;cbv)
 exact B9 (by simp)
def G7 (x y:Int):zE 223 [iV x,iV y] (iV (cI x y)):=by
 refine sF Tryz.f223 ?_;have cx:=Lq x;have cy:=Lq y;have h1:x<y->cI x y=-1:=λh=>if_pos h;have h2:¬x<y->y<x->cI x y=1:=λh g=>by unfold cI;omega
 have h3:¬x<y->¬y<x->cI x y=0:=λh g=>by unfold cI;omega
 generalize cI x y=c at *;cbv;refine cA cx ?_;cbv;refine cA cy ?_;cbv;refine zH (λh=>?_) (λh=>?_)
 ·cbv
  (refine rC ?_;cbv)
  exact zG (h1 h).symm
 ·cbv;refine zH (λg=>?_) (λg=>?_)
  ·cbv
   (refine rC ?_;cbv)
   exact zG (h2 h g).symm
  ·cbv
   (refine rC ?_;cbv)
   exact zG (h3 h g).symm
def RZ (x:Int):List PV:=[iV x]
def DC (a:Int):y4 qV (RZ a)=true:=rfl
def BO (a:Int):(RZ a).length=1:=rfl
def orL:List Int->Int
 |[]=>0| x::r=>orI x (orL r)
def sOr (l:List Int)(hl:l.length<2^40):zE 222 [.sl (λ_=>enc RZ l)] (iV (orL l)):=by
 refine sF Tryz.f222 ?_;generalize hr:orL l=r;cbv;refine zZ (σ:=Nat) (λi=>⟨[(3,iV 0),(6,.sl (λ_=>enc RZ l)),(7,iV l.length),(8,iV i)],[]⟩)
  (λi=>i<=l.length/\r=orL (l.drop i)) (λi=>l.length-i) 0 ⟨om,hr.symm⟩ (.le ?_ ?_ rfl) ?_
 {cbv;exact⟨lR,lR,zG (by (try dsimp only [z6] at *);rw[zB]),lR,trivial⟩};{cbv};clear hr;intro i hs;obtain⟨h1,h2⟩:=hs;cbv;refine zH (λh5=>?_) (λh5=>?_)
 ·(cbv;refine wE (l:=l) i (by (grind) <;> (try simp only[zJ] at *) <;> omega) om DC BO (λt ht=>?_);rw[yI ht,show orL (t::l.drop (i+1))=orI t (orL (l.drop (i+1))) from rfl] at h2;have h3:t≠0->r=t:=λh=>by rw[h2];exact if_pos h);have h4:t=0->r=orL (l.drop (i+1)):=λh=>by rw[h2];exact if_neg (λg=>g h)
  clear h2;cbv;refine zH (λh6=>?_) (λh6=>?_);{have h4':=h4 h6;cbv;refine⟨zF om om,i+1,⟨om,h4'⟩,om,.le ?_ ?_ rfl⟩;{cbv;exact⟨lR,lR,lR,zG om,trivial⟩};{cbv}}
  ·have h3':=h3 h6;cbv
   (refine rC ?_;cbv)
   exact zG h3'.symm
 ·have:i=l.length:=om;rw[this,w5] at h2;cbv
  (refine rC ?_;cbv)
  exact zG h2.symm
def My (a b:Row):zE 179 [rwv a,rwv b] (iV (dV a b)):=by
 refine sF Tryz.f179 ?_;have c1:=G7 a.k b.k;have c2:=G7 a.i b.i;have c3:=G7 a.lo b.lo;have c4:=G7 a.hi b.hi;have c5:=sOr [cI a.k b.k,cI a.i b.i,cI a.lo b.lo,cI a.hi b.hi] (by simp);have e:orL [cI a.k b.k,cI a.i b.i,cI a.lo b.lo,cI a.hi b.hi]=dV a b:=by
  (unfold dV orL orL orL orL orL;have:∀ x,orI x 0=x:=λx=>by grind [orI]);rw[this]
 rw[e] at c5;generalize dV a b=r at *;generalize cI a.k b.k=x1 at *;generalize cI a.i b.i=x2 at *;generalize cI a.lo b.lo=x3 at *;generalize cI a.hi b.hi=x4 at *;cbv;refine zP 22 (by cbv) ?_;cbv;refine dA c1 ?_;cbv;refine dA c2 ?_;cbv;refine dA c3 ?_;cbv;refine dA c4 ?_;cbv;refine wH (by exact⟨zT rfl,trivial⟩) c5 rfl ?_;cbv;exact rA
def Lw (a b:Mult):zE 178 [.agg (mc a),.agg (mc b)] (iV (dV a.row b.row)):=by refine sF Tryz.f178 ?_;have c1:=My a.row b.row;generalize dV a.row b.row=r at *;cbv;refine cA c1 ?_;cbv;exact rA
def Ly (a:Mult)(ha:a.c.num.length<2^40):zE 175 [.agg (mc a)] (zM (decide (yF a.c.q<0))):=by refine sF Tryz.f175 ?_;have c1:=s86 a.c ha;generalize yF a.c.q=r at *;cbv;refine cA c1 ?_;cbv;exact rA
def b8:Option Row->List Mult->Bool
 |_,[]=>true
 |p,m::r=>decide (0<yF m.c.q)&&(m.c.ok&&((match p with
  |none=>true| some w=>decide (dV w m.row<0))&&b8 (some m.row) r))
end Go.Proofs.YtboocdbmnfjomaaGreat
