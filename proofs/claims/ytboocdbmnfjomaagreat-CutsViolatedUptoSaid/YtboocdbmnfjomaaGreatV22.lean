/- A part of the proof: RwA, RwB, UtA, RvA, RvB, DvA. -/
import Derived.Test.YtboocdbmnfjomaaGreatV21
import Derived.Test.YtboocdbmnfjomaaGreatV20
set_option linter.all false
namespace Go.Proofs.YtboocdbmnfjomaaGreat
open Go
set_option maxRecDepth 100000
set_option maxHeartbeats 2000000
abbrev R0:R:=⟨false,[],[]⟩
def A3 (x:R):zH 190 [rv x] (zM (decide (x=R0))):=by
 refine sF Tryz.f190 ?_;obtain⟨a,b,c⟩:=x;have h0:∀ l:List UInt32,((lm l).length:Int)=0↔l=[]:=λl=>by grind [zJ,List.eq_nil_of_length_eq_zero]
 generalize hr:decide ((⟨a,b,c⟩:R)=R0)=r;have hr0:r=(!a&&(decide (((lm b).length:Int)=0)&&decide (((lm c).length:Int)=0))):=by simp_all
 clear hr;cbv;refine yI (λe=>?_) (λe=>?_)
 ·subst e;cbv
  (refine rC ?_;cbv)
  exact zO (by grind)
 ·subst e;cbv;refine zX (λe=>?_) (λe=>?_)
  ·rw[decide_eq_true e] at hr0;cbv
   (refine rC ?_;cbv)
   exact z4 (by grind)
  ·rw[decide_eq_false e] at hr0;cbv
   (refine rC ?_;cbv)
   exact zO (by grind)
def Kb (q:Qry)(d:Dec)(hd:d.x.sz (2^36)):zH 136 [qv q,dv d] (zM (d.fits q)):=by
 refine sF Tryz.f136 ?_;have cz:=A3 d.x;have cv:=Cb d.x hd;have hr:d.fits q=if d.k=1\/d.k=2 then decide (0<=d.i/\d.i<q.g.us.length)&&decide (d.x=R0) else if d.k=3\/d.k=4 then decide (0<=d.i/\d.i<q.g.n)&&d.x.ok else false:=rfl
 generalize d.fits q=r at *;generalize decide (d.x=R0)=z at *;generalize d.x.ok=ok at *;obtain⟨⟨n,us,os⟩,⟨lo,hi,rows⟩,⟨ts,c1,c2,c3⟩⟩:=q;obtain⟨k,i,x1,x2,x3⟩:=d;simp only at hr;have u1:∀ (hk:k=1\/k=2),(0<=i->i<us.length->r=z)/\(¬(0<=i/\i<us.length)->r=false):=λhk=>by grind
 have u2:∀ (hk:k=3\/k=4),(0<=i->i<n->r=ok)/\(¬(0<=i/\i<n)->r=false):=λhk=>by grind
 have u3:¬(k=1\/k=2\/k=3\/k=4)->r=false:=λhk=>by grind
 clear hr;cbv;have hk:k=1\/k=2\/k=3\/k=4\/(k<=0\/5<=k):=by omega
 rcases hk with rfl|rfl|rfl|rfl|hk
 ·obtain⟨v1,v2⟩:=u1 (.inl rfl);clear u1 u2 u3;refine xD rfl ?_;cbv;refine xD rfl ?_;cbv;refine zX (λe1=>?_) (λe1=>?_)
  ·cbv;refine zX (λe2=>?_) (λe2=>?_)
   ·cbv;refine cA cz ?_;cbv
    (refine rC ?_;cbv)
    exact z4 (by rw[v1 om (by rw[zB] at e2;exact om)])
   ·cbv
    (refine rC ?_;cbv)
    exact zO (v2 (λh=>by rw[zB] at e2;exact om))
  ·cbv
   (refine rC ?_;cbv)
   exact zO (v2 (λh=>by exact om))
 ·obtain⟨v1,v2⟩:=u1 (.inr rfl);clear u1 u2 u3;refine yA (by simp) ?_;cbv;refine xD rfl ?_;cbv;refine zX (λe1=>?_) (λe1=>?_)
  ·cbv;refine zX (λe2=>?_) (λe2=>?_)
   ·cbv;refine cA cz ?_;cbv
    (refine rC ?_;cbv)
    exact z4 (by rw[v1 om (by rw[zB] at e2;exact om)])
   ·cbv
    (refine rC ?_;cbv)
    exact zO (v2 (λh=>by rw[zB] at e2;exact om))
  ·cbv
   (refine rC ?_;cbv)
   exact zO (v2 (λh=>by exact om))
 ·obtain⟨v1,v2⟩:=u2 (.inl rfl);clear u1 u2 u3;refine yA (by simp) ?_;cbv;refine yA (by simp) ?_;cbv;refine xD rfl ?_;cbv;refine xD rfl ?_;cbv;refine zX (λe1=>?_) (λe1=>?_)
  ·cbv;refine zX (λe2=>?_) (λe2=>?_)
   ·cbv;refine cA cv ?_;cbv
    (refine rC ?_;cbv)
    exact z4 (by rw[v1 om (by exact om)])
   ·cbv
    (refine rC ?_;cbv)
    exact zO (v2 (λh=>by exact om))
  ·cbv
   (refine rC ?_;cbv)
   exact zO (v2 (λh=>by exact om))
 ·obtain⟨v1,v2⟩:=u2 (.inr rfl);clear u1 u2 u3;refine yA (by simp) ?_;cbv;refine yA (by simp) ?_;cbv;refine yA (by simp) ?_;cbv;refine xD rfl ?_;cbv;refine zX (λe1=>?_) (λe1=>?_)
  ·cbv;refine zX (λe2=>?_) (λe2=>?_)
   ·cbv;refine cA cv ?_;cbv
    (refine rC ?_;cbv)
    exact z4 (by rw[v1 om (by exact om)])
   ·cbv
    (refine rC ?_;cbv)
    exact zO (v2 (λh=>by exact om))
  ·cbv
   (refine rC ?_;cbv)
   exact zO (v2 (λh=>by exact om))
 ·have hr:=u3 oM;clear u1 u2 u3;refine yA (by grind) ?_;cbv;refine yA (by grind) ?_;cbv;refine yA (by grind) ?_;cbv;refine yA (by grind) ?_;cbv
  (refine rC ?_;cbv)
  exact zO hr
def Row.plain (r:Row):Bool:=decide (r.lo=0)&&decide (r.hi=0)
def Ka (r:Row):zH 131 [rwv r] (zM r.plain):=by
 refine sF Tryz.f131 ?_;have hr:r.plain=(decide (r.lo=0)&&decide (r.hi=0)):=rfl;generalize r.plain=p at *;obtain⟨k,i,lo,hi⟩:=r;cbv;refine zX (λe=>?_) (λe=>?_)
 ·simp only at hr;rw[decide_eq_true e,xQ] at hr;cbv
  (refine rC ?_;cbv)
  exact z4 hr.symm
 ·simp only at hr;rw[decide_eq_false e] at hr;cbv
  (refine rC ?_;cbv)
  exact zO hr
def F.var (v:Int):F:=⟨[(v,1)],0⟩
def F.num (q:Rat):F:=⟨[],q⟩
def Uz (v:Int):zH 133 [iV v] (fv (F.var v)):=by
 refine sF Tryz.f133 ?_;have c1:=JX 1 (by decide) (by decide);have e:fv (F.var v)=.agg [.sl (λ_=>[y7 [iV v,zM ((zK ((1:Int):Rat)).neg),nat (zK ((1:Int):Rat)).num,nat (zK ((1:Int):Rat)).den]]),zM R0.neg,nat R0.num,nat R0.den]:=by show av ⟨[(v,zK 1)],zK 0⟩=_;rw[uI];rfl
 rw[e];clear e;generalize zK ((1:Int):Rat)=o at *;obtain⟨o1,o2,o3⟩:=o;cbv;refine cA c1 ?_;cbv
 (refine rC ?_;cbv)
 exact⟨zU rfl,zO rfl,xC rfl,xC rfl,trivial⟩
def Zs (x:R)(hx:x.sz (2^36)):zH 134 [rv x] (fv (F.num x.q)):=by refine sF Tryz.f134 ?_;have c1:=Fh x hx;show wp _ _ (gT _ (.agg [tsv [],zM ((zK x.q).neg),nat (zK x.q).num,nat (zK x.q).den]) [] []);generalize zK x.q=w at *;obtain⟨w1,w2,w3⟩:=w;obtain⟨x1,x2,x3⟩:=x;cbv;refine cA c1 ?_;cbv;exact rA
def Xl (f:A)(hf:f.sz (2^33)):zH 137 [av f] (fv (f.f.scale (-1))):=by refine sF Tryz.f137 ?_;have c1:=JX (-1) (by decide) (by decide);have c2:=Xp f (zK ((-1:Int):Rat)) hf ((YF (-1) (by decide) (by decide)).mono (by decide));rw[yD] at c2;have e:f.f.scale ((-1:Int):Rat)=f.f.scale (-1):=rfl;rw[e] at c2;generalize fA (f.f.scale (-1))=W at *;generalize zK ((-1:Int):Rat)=o at *;obtain⟨ft,f1,f2,f3⟩:=f;obtain⟨wt,w1,w2,w3⟩:=W;cbv;refine zP 3 (by cbv) ?_;cbv;refine dA c1 ?_;cbv;refine dA c2 ?_;cbv;exact rA
def Scp.lem (s:Scp) (n unit:Int) (up:Bool):Option Rat :=
 if 1<=n/\n<=s.lems.length then
  match s.lems[(n-1).toNat]? with
  |some m=>if m.u=unit/\m.up=up then some m.v.q else none| none=>none
 else none
def CN {s:Scp}{n unit:Int}{up:Bool}(h:¬(1<=n/\n<=s.lems.length)):s.lem n unit up=none:=if_neg h
def Hf {s:Scp}{n unit:Int}{up:Bool}{m:Lem}(h:1<=n)(h2:n<=s.lems.length)(hm:s.lems[(n-1).toNat]?=some m):s.lem n unit up=if m.u=unit/\m.up=up then some m.v.q else none:=by unfold Scp.lem;simp_all
def DQ (s:Scp)(n unit:Int)(up:Bool)(hs:Lsz (2^36) s.lems):zH 141 [sv s,iV n,iV unit,zM up] (.tup [rv (zK ((s.lem n unit up).getD 0)),zM ((s.lem n unit up).isSome)]):=by
 refine sF Tryz.f141 ?_;have hno:¬(1<=n/\n<=s.lems.length)->s.lem n unit up=none:=λh=>CN h;have hat:∀ m,1<=n->n<=s.lems.length->s.lems[(n-1).toNat]?=some m->s.lem n unit up=if m.u=unit/\m.up=up then some m.v.q else none:=λm h1 h2 h3=>Hf h1 h2 h3
 have hsl:=hs.len;have hss:=hs.sz;generalize s.lem n unit up=o at *;obtain⟨⟨⟨gn,us,os⟩,⟨lo,hi,rows⟩,⟨ts,c1,c2,c3⟩⟩,path,lems⟩:=s;simp only at hno hat hsl hss;have fin:∀ (W:R) (b:Bool),o=none->W=zK (o.getD 0)/\b=o.isSome->W=R0/\b=false:=λW b h1 h2=>by rw[h1] at h2;exact⟨by rw[h2.1];exact uI,h2.2⟩
 obtain⟨W,hW⟩:∃ W,W=zK (o.getD 0):=⟨_,rfl⟩;obtain⟨b,hb⟩:∃ b,b=o.isSome:=⟨_,rfl⟩;rw[<-hW,<-hb];have fin':o=none->W=R0/\b=false:=λh=>fin W b h ⟨hW,hb⟩;have fin2:∀ q,o=some q->W=zK q/\b=true:=λq h=>by grind
 clear fin hW hb;obtain⟨W1,W2,W3⟩:=W;have fin3:o=none->W1=false/\W2=[]/\W3=[]/\b=false:=λh=>by grind
 clear fin';cbv;refine zX (λe1=>?_) (λe1=>?_);{cbv;obtain⟨g1,g2,g3,g4⟩:=fin3 (hno oM);subst g1 g2 g3 g4;exact rA};cbv;refine zX (λe2=>?_) (λe2=>?_);{cbv;obtain⟨g1,g2,g3,g4⟩:=fin3 (hno (by rw[zB] at e2;exact om));subst g1 g2 g3 g4;exact rA};cbv;rw[zB] at e2;obtain⟨m,hm⟩:∃ m,lems[(n-1).toNat]?=some m:=yB (by exact om);have hat':=hat m oM (by exact om) hm;have hms:=hss m (yE hm);have cc:=Fh m.v hms;have idx:∀ {K:List PV->Prop},K (lc m)->IdxOk 6 (λ_=>enc lc lems) (λ_=>n-1) K:=λhK=>wB (l:=lems) (n-1).toNat oM (by exact om) kC j7 (λm' hm'=>by grind);generalize hq:m.v.q=q at *;obtain⟨mu,mup,⟨v1,v2,v3⟩,mpf⟩:=m;simp only at hat';clear hat hno hq;generalize hwq:zK q=wq at *;refine⟨zE om om,idx ?_⟩;cbv;refine zX (λe3=>?_) (λe3=>?_);{cbv;refine⟨zE om om,idx ?_⟩;cbv;refine zG (λe4=>?_) (λe4=>?_);{cbv;obtain⟨g1,g2⟩:=fin2 q (by grind);rw[hwq] at g1;subst g1 g2;refine⟨zE om om,idx ?_⟩;cbv;refine cA cc ?_;cbv;exact rA};{cbv;obtain⟨g1,g2,g3,g4⟩:=fin3 (by grind);subst g1 g2 g3 g4;exact rA}};{cbv;obtain⟨g1,g2,g3,g4⟩:=fin3 (by grind);subst g1 g2 g3 g4;exact rA}
def Scp.dcd (s:Scp) (kind unit:Int):Bool:=s.path.any λd=>decide (d.k=kind)&&(decide (d.i=unit)&&d.fits s.q)
def A4 (s:Scp)(kind unit:Int)(d:Dec)(hd:d.x.sz (2^36)):zH 192 [.agg (dc d),.dptr [iV kind] 0,.dptr [iV unit] 0,.dptr (sc s) 0] (zM (decide (d.k=kind)&&(decide (d.i=unit)&&d.fits s.q))):=by
 refine sF Tryz.f192 ?_;have cf:=Kb s.q d hd;generalize d.fits s.q=ft at *;obtain⟨⟨⟨gn,us,os⟩,⟨lo,hi,rows⟩,⟨ts,c1,c2,c3⟩⟩,path,lems⟩:=s;obtain⟨k,i,x1,x2,x3⟩:=d;generalize hr:(decide (k=kind)&&(decide (i=unit)&&ft))=r;cbv;refine zX (λe1=>?_) (λe1=>?_)
 ·rw[decide_eq_true e1,xQ] at hr;cbv;refine zX (λe2=>?_) (λe2=>?_)
  ·rw[decide_eq_true e2,xQ] at hr;cbv;refine cA cf ?_;cbv
   (refine rC ?_;cbv)
   exact z4 hr
  ·rw[decide_eq_false e2] at hr;cbv
   (refine rC ?_;cbv)
   exact zO hr.symm
 ·rw[decide_eq_false e1] at hr;cbv
  (refine rC ?_;cbv)
  exact zO hr.symm
def Zt (s:Scp)(kind unit:Int)(hs:Dsz (2^36) s.path):zH 140 [sv s,iV kind,iV unit] (zM (s.dcd kind unit)):=by refine sF Tryz.f140 ?_;have c1:=MK (λd=>decide (d.k=kind)&&(decide (d.i=unit)&&d.fits s.q)) s.path (gC hs.len (by decide)) 192 [.dptr [iV kind] 0,.dptr [iV unit] 0,.dptr (sc s) 0] (λd hd=>A4 s kind unit d (hs.sz d hd));have e:(s.path.any λd=>decide (d.k=kind)&&(decide (d.i=unit)&&d.fits s.q))=s.dcd kind unit:=rfl;rw[e] at c1;generalize s.dcd kind unit=r at *;obtain⟨⟨⟨gn,us,os⟩,⟨lo,hi,rows⟩,⟨ts,c1',c2,c3⟩⟩,path,lems⟩:=s;cbv;refine j4 (.trans (.frz 3 rfl rfl (by repeat' first|exact trivial|apply And.intro) (by repeat' first|exact trivial|apply And.intro)) (.trans (.frz 4 rfl rfl (by repeat' first|exact trivial|apply And.intro) (by repeat' first|exact trivial|apply And.intro)) (.frz 5 rfl rfl (by repeat' first|exact trivial|apply And.intro) (by repeat' first|exact trivial|apply And.intro)))) rfl (by exact⟨lR,⟨rfl,lR,lR,lR,trivial⟩,trivial⟩) c1 rfl ?_;cbv;exact rA
abbrev usv (s:Scp) (r:Row) (v p:A) (l u:R) (low top:Bool):PV:=.agg [iV s.q.g.n,alv s.q.g.us,alv s.q.g.os,rlv s.q.r.lo,rlv s.q.r.hi,alv s.q.r.rows,tsv s.q.goal.ts,zM s.q.goal.c.neg,nat s.q.goal.c.num,nat s.q.goal.c.den,dlv s.path,llv s.lems,
 (iV r.k),iV r.i,iV r.lo,iV r.hi,tsv v.ts,zM v.c.neg,nat v.c.num,nat v.c.den,tsv p.ts,zM p.c.neg,nat p.c.num,nat p.c.den,
 (zM l.neg),nat l.num,nat l.den,zM u.neg,nat u.num,nat u.den,zM low,zM top]
def onB (s:Scp) (r:Row) (l:Rat) (low:Bool):Bool:=decide (r.hi=0)&&((decide (r.lo=0)&&s.dcd 1 r.i) || (low&&decide (0<=yG l)))
def Va (s:Scp) (r:Row) (u:Rat) (top:Bool):Bool:=decide (r.lo=0)&&((decide (r.hi=0)&&s.dcd 2 r.i) || (top&&decide (yG u<=0)))
def Mv (s:Scp)(r:Row)(v p:A)(l u:R)(low top:Bool)(hs:Dsz (2^36) s.path)(hx:l.num.length<2^40):zH 142 [usv s r v p l u low top] (zM (onB s r l.q low)):=by
 refine sF Tryz.f142 ?_;have cd:=Zt s 1 r.i hs;have cs:=s86 l hx;generalize hres:onB s r l.q low=res;have hr:res=(decide (r.hi=0)&&((decide (r.lo=0)&&s.dcd 1 r.i) || (low&&decide (0<=yG l.q)))):=hres.symm;clear hres hs;generalize s.dcd 1 r.i=dd at *;generalize yG l.q=sg at *;obtain⟨⟨⟨gn,us,os⟩,⟨lo,hi,rows⟩,⟨ts,c1,c2,c3⟩⟩,path,lems⟩:=s;obtain⟨k,i,rlo,rhi⟩:=r;obtain⟨vt,v1,v2,v3⟩:=v;obtain⟨pt,p1,p2,p3⟩:=p;obtain⟨l1,l2,l3⟩:=l;obtain⟨u1,u2,u3⟩:=u;simp only at hr;cbv;refine J3 ?_;cbv;refine zX (λe1=>?_) (λe1=>?_)
 ·rw[decide_eq_true e1,xQ] at hr;cbv;refine zX (λe2=>?_) (λe2=>?_)
  ·rw[decide_eq_true e2,xQ] at hr;cbv;refine cA cd ?_;cbv;refine yI (λe3=>?_) (λe3=>?_)
   ·rw[e3,Bool.true_or] at hr;cbv
    (refine rC ?_;cbv)
    exact yN hr
   ·rw[e3,rL] at hr;cbv;refine yI (λe4=>?_) (λe4=>?_)
    ·rw[e4,xQ] at hr;cbv;refine cA cs ?_;cbv
     (refine rC ?_;cbv)
     exact z4 hr.symm
    ·rw[e4,s3] at hr;cbv
     (refine rC ?_;cbv)
     exact zO hr
  ·rw[decide_eq_false e2,s3,rL] at hr;cbv;refine yI (λe4=>?_) (λe4=>?_)
   ·rw[e4,xQ] at hr;cbv;refine cA cs ?_;cbv
    (refine rC ?_;cbv)
    exact z4 hr.symm
   ·rw[e4,s3] at hr;cbv
    (refine rC ?_;cbv)
    exact zO hr
 ·rw[decide_eq_false e1,s3] at hr;cbv
  (refine rC ?_;cbv)
  exact zO hr
def Px (s:Scp)(r:Row)(v p:A)(l u:R)(low top:Bool)(hs:Dsz (2^36) s.path)(hx:u.num.length<2^40):zH 143 [usv s r v p l u low top] (zM (Va s r u.q top)):=by
 refine sF Tryz.f143 ?_;have cd:=Zt s 2 r.i hs;have cs:=s86 u hx;generalize hres:Va s r u.q top=res;have hr:res=(decide (r.lo=0)&&((decide (r.hi=0)&&s.dcd 2 r.i) || (top&&decide (yG u.q<=0)))):=hres.symm;clear hres hs;generalize s.dcd 2 r.i=dd at *;generalize yG u.q=sg at *;obtain⟨⟨⟨gn,us,os⟩,⟨lo,hi,rows⟩,⟨ts,c1,c2,c3⟩⟩,path,lems⟩:=s;obtain⟨k,i,rlo,rhi⟩:=r;obtain⟨vt,v1,v2,v3⟩:=v;obtain⟨pt,p1,p2,p3⟩:=p;obtain⟨l1,l2,l3⟩:=l;obtain⟨u1,u2,u3⟩:=u;simp only at hr;cbv;refine J3 ?_;cbv;refine zX (λe1=>?_) (λe1=>?_)
 ·rw[decide_eq_true e1,xQ] at hr;cbv;refine zX (λe2=>?_) (λe2=>?_)
  ·rw[decide_eq_true e2,xQ] at hr;cbv;refine cA cd ?_;cbv;refine yI (λe3=>?_) (λe3=>?_)
   ·rw[e3,Bool.true_or] at hr;cbv
    (refine rC ?_;cbv)
    exact yN hr
   ·rw[e3,rL] at hr;cbv;refine yI (λe4=>?_) (λe4=>?_)
    ·rw[e4,xQ] at hr;cbv;refine cA cs ?_;cbv
     (refine rC ?_;cbv)
     exact z4 hr.symm
    ·rw[e4,s3] at hr;cbv
     (refine rC ?_;cbv)
     exact zO hr
  ·rw[decide_eq_false e2,s3,rL] at hr;cbv;refine yI (λe4=>?_) (λe4=>?_)
   ·rw[e4,xQ] at hr;cbv;refine cA cs ?_;cbv
    (refine rC ?_;cbv)
    exact z4 hr.symm
   ·rw[e4,s3] at hr;cbv
    (refine rC ?_;cbv)
    exact zO hr
 ·rw[decide_eq_false e1,s3] at hr;cbv
  (refine rC ?_;cbv)
  exact zO hr
def xL {α:Type}{p:α->List PV}{n:Nat}{l:List α}{i:Nat}{a:α}{K:List PV->Prop}(h:l[i]?=some a)(hf:∀ a,yX qT (p a)=true)(hn:∀ a,(p a).length=n)(hK:K (p a)):IdxOk n (λ_=>enc p l) (λ_=>(i:Int)) K :=
 wB (l:=l) i rfl (w8.1 h).1 hf hn (λa' ha'=>by rw[h] at ha';cases ha';exact hK)
def u9 {α:Type}{p:α->List PV}{n:Nat}{l:List α}{i:Nat}{k:Int}{a:α}{K:List PV->Prop}(h:l[i]?=some a)(hk:k=(i:Int))(hf:∀ a,yX qT (p a)=true)(hn:∀ a,(p a).length=n)(hK:K (p a)):IdxOk n (λ_=>enc p l) (λ_=>k) K :=
 wB (l:=l) i hk (w8.1 h).1 hf hn (λa' ha'=>by rw[h] at ha';cases ha';exact hK)
def tB {α:Type}{p:α->List PV}{l:List α}{i:Nat}(h:(i:Int)<((enc p l).length:Int)):i<l.length:=by rw[zB] at h;omega
def ZN {α:Type}{p:α->List PV}{l:List α}{i:Nat}(h:¬(i:Int)<((enc p l).length:Int))(h2:i<=l.length):i=l.length:=by rw[zB] at h;omega
def Ya {rs:List ResultVar}{r:PV}{ps ps':PS}{n:Nat}{o:Obj'}(hw:Wk ps ps')(h3:lv r=true)(h4:yK ps'.objs n=some o)(h5:bK o=true)(h6:Nat.ble 1000000 n=true)(h:match dW ps' rs with
  |some l=>les (mM l) (ren id r)| none=>False):RetOk rs r [(n,o)] [] ps:=by
 cases h1:dW ps' rs with
 |none=>rw[h1] at h;exact h.elim| some l=>rw[h1] at h;exact⟨ps',l,id,hw,h1,cO h,h3,⟨⟨by rw[XQ];exact h4,h5⟩,trivial⟩,rfl,⟨rfl,Nat.le_of_ble_eq_true h6⟩,trivial⟩
def A6 (a:A)(vars:Int)(ha:a.sz (2^32)):zH 28 [av a,iV vars] (zM (a.valid vars)):=by
 refine sF Tryz.f28 ?_;obtain⟨ts,c⟩:=a;have hl:=ha.t.len;have hts:=ha.t.sz;have cc:=Fk c ha.c;generalize hr:A.valid vars ⟨ts,c⟩=r;have hr0:r=(vT vars (-1) ts&&c.ok):=hr.symm;simp only at hl hts cc;generalize c.ok=co at *;clear hr ha;cbv;refine zY (σ:=Nat×Int) (λs=>⟨[(1,iV vars),(2,.ptr 2 0),(5,iV s.1)],[(2,.box [tsv ts,zM c.neg,nat c.num,nat c.den])]⟩)
  (λs=>s.1<=ts.length/\r=(vT vars s.2 (ts.drop s.1)&&co)/\(s.1=0->s.2=-1)/\(s.1≠0->∃ u,ts[s.1-1]?=some u/\u.1=s.2)) (λs=>ts.length-s.1)
  (0,-1) ⟨om,hr0,λ_=>rfl,λh=>absurd rfl h⟩ (wkZ) ?_
 intro s hs;obtain⟨h1,hv,h3,h4⟩:=hs;generalize s.1=i at *;generalize s.2=p at *;cbv;refine zG (λh5=>?_) (λh5=>?_)
 ·(obtain⟨t,ht⟩:=yB (tB h5);rw[yJ ht,eK] at hv;have htz:=hts t (yE ht);have cs:=s35 t.2 (by have:=htz.n;omega);have cv:=Fk t.2 htz;have hq:decide (t.2.q≠0)=decide (yG t.2.q≠0):=by rw[decide_eq_decide];exact sgnQ_ne.symm);rw[hq] at hv
  (generalize yG t.2.q=sg at *;generalize hok:t.2.ok=ok at *;generalize hrest:(vT vars t.1 (ts.drop (i+1))&&co)=rest;have hv':r=(decide (0<=t.1)&&decide (t.1<vars)&&decide (p<t.1)&&decide (sg≠0)&&ok&&rest):=by grind);have hi0:i<2^38:=by omega
  clear hv;cbv;refine xL ht wP wH ?_;cbv;refine zP 37 (by cbv) ?_;cbv;refine zX (λe1=>?_) (λe1=>?_)
  ·cbv
   (refine rC ?_;cbv)
   exact zO (by grind)
  cbv;refine zX (λe2=>?_) (λe2=>?_)
  ·cbv
   (refine rC ?_;cbv)
   exact zO (by grind)
  (cbv;have fin:(¬(p<t.1)->r=false):=λh=>by grind);have hmain:(p<t.1)->r=(decide (sg≠0)&&ok&&rest):=λh=>by grind
  clear hv';have tail:r=(decide (sg≠0)&&ok&&rest)->True:=λ_=>trivial;refine zX (λe3=>?_) (λe3=>?_)
  ·obtain⟨u,hu,hu2⟩:=h4 om;cbv;refine⟨zE om om,u9 hu om wP wH ?_⟩;cbv;refine zX (λe4=>?_) (λe4=>?_)
   ·cbv
    (refine rC ?_;cbv)
    exact zO (fin oM)
   have hm:=hmain oM;cbv;refine dA cs ?_;cbv;refine zX (λe5=>?_) (λe5=>?_)
   ·cbv
    (refine rC ?_;cbv)
    exact zO (by grind)
   rw[decide_eq_true e5,xQ] at hm;cbv;refine dA cv ?_;cbv;refine zZ (λe6=>?_) (λe6=>?_);{rw[e6,xQ] at hm;cbv;exact⟨zE om om,(i+1,t.1),⟨by grind,by grind,λh=>absurd h (by simp),λ_=>⟨_,ht,rfl⟩⟩,by grind,wkZ⟩}
   ·cbv
    (refine rC ?_;cbv)
    exact zO (by grind)
  ·have hp:=h3 om;have hm:=hmain oM;cbv;refine dA cs ?_;cbv;refine zX (λe5=>?_) (λe5=>?_)
   ·cbv
    (refine rC ?_;cbv)
    exact zO (by grind)
   rw[decide_eq_true e5,xQ] at hm;cbv;refine dA cv ?_;cbv;refine zZ (λe6=>?_) (λe6=>?_);{rw[e6,xQ] at hm;cbv;exact⟨zE om om,(i+1,t.1),⟨by grind,by grind,λh=>absurd h (by simp),λ_=>⟨_,ht,rfl⟩⟩,by grind,wkZ⟩}
   ·cbv
    (refine rC ?_;cbv)
    exact zO (by grind)
 ·(have he:=ZN h5 h1;rw[he,vE] at hv;have hv':r=co:=by rw[hv];rfl);cbv
  refine cA cc ?_;cbv
  (refine rC ?_;cbv)
  exact z4 hv'.symm
def Mx (l:List A)(vars:Int)(hl:Asz (2^32) l):zH 107 [alv l,iV vars] (zM (l.all (A.valid vars))):=by
 refine sF Tryz.f107 ?_;have hll:=hl.len;have hls:=hl.sz;have hc:∀ a,a∈l->zH 28 [av a,iV vars] (zM (a.valid vars)):=λa h=>A6 a vars (hls a h);obtain⟨P,hP⟩:=ex (A.valid vars);rw[hP] at hc ⊢;generalize hr:l.all P=r;have hr0:r=(l.drop 0).all P:=hr.symm;clear hr hls hl;cbv;refine zY (σ:=Nat) (λi=>⟨[(0,alv l),(1,iV vars),(5,iV i)],[]⟩) (λi=>i<=l.length/\r=(l.drop i).all P) (λi=>l.length-i) 0 ⟨by omega,hr0⟩ (wkZ) ?_;intro i hi;obtain⟨h1,h2⟩:=hi;cbv;refine zG (λh5=>?_) (λh5=>?_)
 ·have hlt:=tB h5;obtain⟨a,ha⟩:=yB hlt;have ca:=hc a (yE ha);rw[yJ ha,Jq] at h2;generalize P a=pa at *;generalize hrest:(l.drop (i+1)).all P=rest at *;cbv;refine xL ha kX fI ?_;cbv;refine cA ca ?_;cbv;refine zZ (λe=>?_) (λe=>?_);{cbv;exact⟨zE om om,i+1,⟨om,by grind⟩,om,wkZ⟩}
  ·cbv
   (refine rC ?_;cbv)
   exact zO (by grind)
 ·have he:=ZN h5 h1;rw[he,vE] at h2;have h2':r=true:=h2;cbv
  (refine rC ?_;cbv)
  exact yN h2'
def My (l:List R)(hl:Rsz (2^32) l):zH 146 [rlv l] (zM (l.all R.ok)):=by
 refine sF Tryz.f146 ?_;have hll:=hl.len;have hls:=hl.sz;have hc:∀ a,a∈l->zH 71 [rv a] (zM a.ok):=λa h=>Fk a (hls a h);obtain⟨P,hP⟩:=ex R.ok;rw[hP] at hc ⊢;generalize hr:l.all P=r;have hr0:r=(l.drop 0).all P:=hr.symm;clear hr hls hl;cbv;refine zY (σ:=Nat) (λi=>⟨[(0,rlv l),(3,iV i)],[]⟩) (λi=>i<=l.length/\r=(l.drop i).all P) (λi=>l.length-i) 0 ⟨by omega,hr0⟩ (wkZ) ?_;intro i hi;obtain⟨h1,h2⟩:=hi;cbv;refine zG (λh5=>?_) (λh5=>?_)
 ·have hlt:=tB h5;obtain⟨a,ha⟩:=yB hlt;have ca:=hc a (yE ha);rw[yJ ha,Jq] at h2;generalize P a=pa at *;generalize hrest:(l.drop (i+1)).all P=rest at *;cbv;refine xL ha jW cH ?_;cbv;refine cA ca ?_;cbv;refine zZ (λe=>?_) (λe=>?_);{cbv;exact⟨zE om om,i+1,⟨om,by grind⟩,om,wkZ⟩}
  ·cbv
   (refine rC ?_;cbv)
   exact zO (by grind)
 ·have he:=ZN h5 h1;rw[he,vE] at h2;have h2':r=true:=h2;cbv
  (refine rC ?_;cbv)
  exact yN h2'
def S9 (g:Grp)(hg:g.sz (2^32)):zH 56 [gv g] (zM g.valid):=by
 refine sF Tryz.f56 ?_;obtain⟨n,us,os⟩:=g;have hus:=hg.us;have hos:=hg.os;have hc:∀ a,a∈us->∀ k,zH 28 [av a,iV k] (zM (a.valid k)):=λa h k=>A6 a k (hus.sz a h);have ca:=Mx os (n+us.length) hos;have hul:=hus.len;have hol:=hos.len;dsimp only at hul hol;generalize hr:Grp.valid ⟨n,us,os⟩=r;have hr0:r=(decide (1<=n/\n<=256/\us.length<=1024/\1<=os.length/\os.length<=256)&&vU n us&&os.all (A.valid (n+us.length))):=hr.symm;obtain⟨U,hU⟩:=ex vU;have hU0:∀ k,U k []=true:=λk=>by rw[<-hU];rfl
 have hU1:∀ k f l,U k (f::l)=(f.valid k&&U (k+1) l):=λk f l=>by rw[<-hU];rfl
 rw[hU] at hr0;generalize os.all (A.valid (n+us.length))=oa at *;have hf:¬(1<=n/\n<=256/\us.length<=1024/\1<=os.length/\os.length<=256)->r=false:=λh=>by grind
 have ht:(1<=n/\n<=256/\us.length<=1024/\1<=os.length/\os.length<=256)->r=(U n us&&oa):=λh=>by grind
 clear hr hr0 hU hg hus hos;cbv;refine zX (λe1=>?_) (λe1=>?_)
 ·cbv
  (refine rC ?_;cbv)
  exact zO (hf okQ)
 cbv;refine zX (λe2=>?_) (λe2=>?_)
 ·cbv
  (refine rC ?_;cbv)
  exact zO (hf okQ)
 cbv;refine zX (λe3=>?_) (λe3=>?_)
 ·cbv
  (refine rC ?_;cbv)
  exact zO (hf okQ)
 cbv;refine zX (λe4=>?_) (λe4=>?_)
 ·cbv
  (refine rC ?_;cbv)
  exact zO (hf okQ)
 cbv;refine zG (λe5=>?_) (λe5=>?_)
 ·cbv
  (refine rC ?_;cbv)
  exact zO (hf okQ)
 have hv:=ht okQ;have hn1:1<=n:=okQ;have hn2:n<=256:=okQ;have hu2:us.length<=1024:=okQ;clear ht hf e1 e2 e3 e4 e5;cbv;refine zY (σ:=Nat) (λi=>⟨[(1,.ptr 1 0),(3,iV i)],[(1,.box [iV n,alv us,alv os])]⟩) (λi=>i<=us.length/\r=(U (n+i) (us.drop i)&&oa)) (λi=>us.length-i) 0 ⟨by omega,by grind⟩ (wkZ) ?_;clear hv;intro i hi;obtain⟨h1,h2⟩:=hi;cbv;refine zG (λh5=>?_) (λh5=>?_)
 ·(have hlt:=tB h5;obtain⟨a,ha⟩:=yB hlt;have cv:=hc a (yE ha) (n+i);rw[yJ ha,hU1] at h2;generalize a.valid (n+i)=pa at *;generalize hrest:U (n+i+1) (us.drop (i+1))=rest at *;have hrest':U (n+((i+1:Nat):Int)) (us.drop (i+1))=rest:=by grind);cbv
  refine zP 9 (by cbv) ?_;cbv;refine xL ha kX fI ?_;cbv;refine⟨zE om om,?_⟩;cbv;refine cA cv ?_;cbv;refine zZ (λe=>?_) (λe=>?_);{cbv;exact⟨zE om om,i+1,⟨om,by grind⟩,om,wkZ⟩}
  ·cbv
   (refine rC ?_;cbv)
   exact zO (by grind)
 ·have he:=ZN h5 h1;rw[he,vE,hU0] at h2;have h2':r=oa:=h2;cbv;refine⟨zE okQ okQ,?_⟩;cbv;refine xI rfl (by refine⟨lR,zF ?_,trivial⟩;rw[zB]) ca rfl ?_;cbv
  (refine rC ?_;cbv)
  exact z4 h2'.symm
def Kc (g:Grp)(hg:g.sz (2^32)):zH 36 [gv g] (iV (if g.valid=true then g.vars else 0)):=by
 refine sF Tryz.f36 ?_;have cv:=S9 g hg;have hb:g.valid=true->1<=g.n/\g.n<=256/\g.us.length<=1024:=λh=>by unfold Grp.valid at h;grind
 have hd:g.vars=g.n+g.us.length:=rfl;generalize g.vars=w at *;generalize g.valid=b at *;obtain⟨n,us,os⟩:=g;dsimp only at hb hd;cbv;refine cA cv ?_;cbv;refine zZ (λe=>?_) (λe=>?_)
 ·have hb':=hb e;cbv;refine⟨zE okQ okQ,?_⟩;cbv
  (refine rC ?_;cbv)
  exact zF (by rw[zB,if_pos e,hd])
 ·cbv
  (refine rC ?_;cbv)
  exact zF (by grind)
def cB:List R->List R->Bool
 |l::ls,h::hs=>decide (wX l.q h.q<=0)&&cB ls hs| _,_=>true
def Y2:∀ {lo hi:List R},lo.length=hi.length->vB lo hi=(lo.all R.ok&&(hi.all R.ok&&cB lo hi))
 |[],[],_=>rfl| l::ls,h::hs,e=>by have ih:=Y2 (lo:=ls) (hi:=hs) (by grind);grind [HF,cB]| [],h::hs,e=>by simp at e| l::ls,[],e=>by simp at e
def MA (g:Reg)(n:Int)(hg:g.sz (2^31)):zH 86 [rgv g,iV n] (zM (g.valid n)):=by
 refine sF Tryz.f86 ?_;obtain⟨lo,hi,rows⟩:=g;have cl:=My lo (hg.lo.mono (by decide));have ch:=My hi (hg.hi.mono (by decide));have cr:=Mx rows n (hg.rows.mono (by decide));have hlo:=hg.lo.sz;have hhi:=hg.hi.sz;have hll:=hg.lo.len;have hhl:=hg.hi.len;have hrl:=hg.rows.len;dsimp only at hlo hhi hll hhl hrl;have cc:∀ a b,a∈lo->b∈hi->zH 47 [rv a,rv b] (iV (wX a.q b.q)):=λa b h1 h2=>s42 a b (hlo a h1) (hhi b h2);generalize hr:Reg.valid n ⟨lo,hi,rows⟩=r;have hr0:r=(decide (1<=n/\n<=256/\(lo.length:Int)=n/\(hi.length:Int)=n/\rows.length<=256)&&vB lo hi&&rows.all (A.valid n)):=hr.symm;have hf:¬(1<=n/\n<=256/\(lo.length:Int)=n/\(hi.length:Int)=n/\rows.length<=256)->r=false:=λh=>by grind
 have ht:(1<=n/\n<=256/\(lo.length:Int)=n/\(hi.length:Int)=n/\rows.length<=256)->r=(lo.all R.ok&&(hi.all R.ok&&cB lo hi)&&rows.all (A.valid n)):=λh=>by rw[hr0,decide_eq_true h,xQ,Y2 oM]
 obtain⟨C,hC⟩:=ex cB;have hC0:C [] []=true:=by rw[<-hC];rfl
 have hC1:∀ a l b m,C (a::l) (b::m)=(decide (wX a.q b.q<=0)&&C l m):=λ_ _ _ _=>by rw[<-hC];rfl
 rw[hC] at ht;generalize lo.all R.ok=la at *;generalize hi.all R.ok=ha at *;generalize rows.all (A.valid n)=ra at *;clear hr hr0 hC hlo hhi hg;cbv;refine zX (λe1=>?_) (λe1=>?_)
 ·cbv
  (refine rC ?_;cbv)
  exact zO (hf okQ)
 cbv;refine zX (λe2=>?_) (λe2=>?_)
 ·cbv
  (refine rC ?_;cbv)
  exact zO (hf okQ)
 cbv;refine zX (λe3=>?_) (λe3=>?_)
 rotate_left
 ·cbv
  (refine rC ?_;cbv)
  exact zO (hf okQ)
 cbv;refine zX (λe4=>?_) (λe4=>?_)
 rotate_left
 ·cbv
  (refine rC ?_;cbv)
  exact zO (hf okQ)
 cbv;refine zG (λe5=>?_) (λe5=>?_)
 ·cbv
  (refine rC ?_;cbv)
  exact zO (hf okQ)
 have hv:=ht okQ;have hn1:1<=n:=okQ;have hn2:n<=256:=okQ;have hn3:(lo.length:Int)=n:=okQ;have hn4:(hi.length:Int)=n:=okQ;clear ht hf e1 e2 e3 e4 e5;cbv;refine cA cl ?_;cbv;refine yI (λe=>?_) (λe=>?_)
 rotate_left
 ·cbv
  (refine rC ?_;cbv)
  exact zO (by grind)
 rw[e,xQ] at hv;cbv;refine cA ch ?_;cbv;refine yI (λe=>?_) (λe=>?_)
 rotate_left
 ·cbv
  (refine rC ?_;cbv)
  exact zO (by grind)
 rw[e,xQ] at hv;cbv;refine cA cr ?_;cbv;refine zZ (λe=>?_) (λe=>?_)
 rotate_left
 ·cbv
  (refine rC ?_;cbv)
  exact zO (by grind)
 rw[e,Bool.and_true] at hv;cbv;refine zY (σ:=Nat) (λi=>⟨[(1,iV n),(2,.ptr 2 0),(5,iV i)],[(2,.box [rlv lo,rlv hi,alv rows])]⟩) (λi=>i<=lo.length/\r=C (lo.drop i) (hi.drop i)) (λi=>lo.length-i) 0 ⟨by omega,hv⟩ (wkZ) ?_;clear hv;intro i hi';obtain⟨h1,h2⟩:=hi';cbv;refine zG (λh5=>?_) (λh5=>?_)
 ·have hlt:i<lo.length:=okQ;obtain⟨a,ha⟩:=yB hlt;obtain⟨b,hb⟩:=yB (l:=hi) (i:=i) okQ;have cv:=cc a b (yE ha) (yE hb);rw[yJ ha,yJ hb,hC1] at h2;generalize wX a.q b.q=cq at *;generalize hrest:C (lo.drop (i+1)) (hi.drop (i+1))=rest at *;cbv;refine zP 10 (by cbv) ?_;cbv;refine xL ha jW cH ?_;cbv;refine xL hb jW cH ?_;cbv;refine cA cv ?_;cbv;refine zG (λe=>?_) (λe=>?_)
  ·cbv
   (refine rC ?_;cbv)
   exact zO (by grind)
  {cbv;exact⟨zE om om,i+1,⟨om,by grind⟩,om,wkZ⟩}
 ·have he:i=lo.length:=okQ;have he2:i=hi.length:=okQ;rw[show lo.drop i=[] by grind,show hi.drop i=[] by grind,hC0] at h2;cbv
  (refine rC ?_;cbv)
  exact yN h2
def DY (q:Qry)(hq:q.sz (2^31)):zH 37 [qv q] (zM q.valid):=by
 refine sF Tryz.f37 ?_;have c1:=S9 q.g (hq.g.mono (by decide));have c2:=MA q.r q.g.n hq.r;have c3:=Kc q.g (hq.g.mono (by decide));have c4:=A6 q.goal q.g.vars (hq.goal.mono (by decide));have hr:q.valid=(q.g.valid&&q.r.valid q.g.n&&q.goal.valid q.g.vars):=rfl;generalize q.valid=r at *;generalize q.g.valid=b1 at *;generalize q.r.valid q.g.n=b2 at *;generalize q.goal.valid q.g.vars=b3 at *;generalize q.g.vars=w at *;obtain⟨⟨n,us,os⟩,⟨lo,hi,rows⟩,⟨ts,x1,x2,x3⟩⟩:=q;cbv;refine zP 19 (by cbv) ?_;cbv;refine dA c1 ?_;cbv;refine yI (λe=>?_) (λe=>?_)
 rotate_left
 ·cbv
  (refine rC ?_;cbv)
  exact zO (by grind)
 rw[e,xQ] at hr;cbv;refine dA c2 ?_;cbv;refine yI (λe2=>?_) (λe2=>?_)
 rotate_left
 ·cbv
  (refine rC ?_;cbv)
  exact zO (by grind)
 rw[e2,xQ] at hr;cbv;refine dA c3 ?_;cbv;refine wK (by exact⟨okA,zF (if_pos e),trivial⟩) c4 rfl ?_;cbv
 (refine rC ?_;cbv)
 exact z4 hr.symm
def D1 (q:Qry)(d:Dec)(hd:d.x.sz (2^32)):zH 92 [qv q,dv d] (zM (d.fits q)):=by
 refine sF Tryz.f92 ?_;have cz:=s69 d.x R0 hd ⟨by decide,by decide⟩;have cv:=Fk d.x hd;have hr:d.fits q=if d.k=1\/d.k=2 then decide (0<=d.i/\d.i<q.g.us.length)&&decide (d.x=R0) else if d.k=3\/d.k=4 then decide (0<=d.i/\d.i<q.g.n)&&d.x.ok else false:=rfl
 generalize d.fits q=r at *;generalize decide (d.x=R0)=z at *;generalize d.x.ok=ok at *;obtain⟨⟨n,us,os⟩,⟨lo,hi,rows⟩,⟨ts,c1,c2,c3⟩⟩:=q;obtain⟨k,i,x1,x2,x3⟩:=d;simp only at hr;have u1:∀ (hk:k=1\/k=2),(0<=i->i<us.length->r=z)/\(¬(0<=i/\i<us.length)->r=false):=λhk=>by grind
 have u2:∀ (hk:k=3\/k=4),(0<=i->i<n->r=ok)/\(¬(0<=i/\i<n)->r=false):=λhk=>by grind
 have u3:¬(k=1\/k=2\/k=3\/k=4)->r=false:=λhk=>by grind
 clear hr;cbv;have hk:(k=1\/k=2)\/(k=3\/k=4)\/(k<=0\/5<=k):=by omega
 rcases hk with hk|hk|hk
 ·obtain⟨v1,v2⟩:=u1 hk;clear u1 u2 u3;refine gK (σ:=Unit) (λ_=>⟨[(2,.ptr 2 0),(3,.ptr 3 0),(6,iV k),(7,.tt)],[(2,.box [iV n,alv us,alv os,rlv lo,rlv hi,alv rows,tsv ts,zM c1,nat c2,nat c3]),(3,.box [iV k,iV i,zM x1,nat x2,nat x3])]⟩) (λ_=>True) (λe=>?_) (λe=>?_) (λ_ _=>?_);{cbv;exact⟨(),trivial,.le (by cbv;exact⟨lR,lR,lR,⟨by simp only[Le,decide_eq_true_eq];exact e⟩,trivial⟩) okZ rfl⟩};{cbv;exact⟨(),trivial,.le (by cbv;exact⟨lR,lR,lR,⟨by simp only[Le,decide_eq_true_eq];exact om⟩,trivial⟩) okZ rfl⟩}
  ·cbv;refine zX (λe1=>?_) (λe1=>?_)
   ·cbv;refine zX (λe2=>?_) (λe2=>?_)
    ·cbv;refine cA cz ?_;cbv
     (refine rC ?_;cbv)
     exact z4 (by rw[v1 okQ okQ])
    ·cbv
     (refine rC ?_;cbv)
     exact zO (v2 okQ)
   ·cbv
    (refine rC ?_;cbv)
    exact zO (v2 okQ)
 ·obtain⟨v1,v2⟩:=u2 hk;clear u1 u2 u3;refine yA (by exact om) ?_;cbv;refine yA (by exact om) ?_;cbv;refine gK (σ:=Unit) (λ_=>⟨[(2,.ptr 2 0),(3,.ptr 3 0),(28,.tt)],[(2,.box [iV n,alv us,alv os,rlv lo,rlv hi,alv rows,tsv ts,zM c1,nat c2,nat c3]),(3,.box [iV k,iV i,zM x1,nat x2,nat x3])]⟩) (λ_=>True) (λe=>?_) (λe=>?_) (λ_ _=>?_);{cbv;exact⟨(),trivial,.le (by cbv;exact⟨lR,lR,⟨by simp only[Le,decide_eq_true_eq];exact e⟩,trivial⟩) okZ rfl⟩};{cbv;exact⟨(),trivial,.le (by cbv;exact⟨lR,lR,⟨by simp only[Le,decide_eq_true_eq];exact om⟩,trivial⟩) okZ rfl⟩}
  ·cbv;refine zX (λe1=>?_) (λe1=>?_)
   ·cbv;refine zX (λe2=>?_) (λe2=>?_)
    ·cbv;refine cA cv ?_;cbv
     (refine rC ?_;cbv)
     exact z4 (by rw[v1 okQ okQ])
    ·cbv
     (refine rC ?_;cbv)
     exact zO (v2 okQ)
   ·cbv
    (refine rC ?_;cbv)
    exact zO (v2 okQ)
 ·have hr:=u3 oM;refine yA (by exact om) ?_;cbv;refine yA (by exact om) ?_;cbv;refine yA (by exact om) ?_;cbv;refine yA (by exact om) ?_;cbv
  (refine rC ?_;cbv)
  exact zO hr
def cI (x y:Int):Int:=if x<y then -1 else if y<x then 1 else 0
def orI (x y:Int):Int:=if x≠0 then x else y
def bU (a b:Row):Int:=orI (cI a.k b.k) (orI (cI a.i b.i) (orI (cI a.lo b.lo) (cI a.hi b.hi)))
def CQ {b:Bool}(h:b=true):LeS (.nbool (λ_=>b)) .ff:=⟨by simp[Le,h]⟩
def MF (x:Int):zH 245 [iV x] .ff:=by
 refine sF Tryz.f245 ?_;cbv
 (refine rC ?_;cbv)
 exact CQ (by simp)
def H2 (x y:Int):zH 223 [iV x,iV y] (iV (cI x y)):=by
 refine sF Tryz.f223 ?_;have cx:=MF x;have cy:=MF y;have h1:x<y->cI x y=-1:=λh=>if_pos h;have h2:¬x<y->y<x->cI x y=1:=λh g=>by unfold cI;omega
 have h3:¬x<y->¬y<x->cI x y=0:=λh g=>by unfold cI;omega
 generalize cI x y=c at *;cbv;refine cA cx ?_;cbv;refine cA cy ?_;cbv;refine zG (λh=>?_) (λh=>?_)
 ·cbv
  (refine rC ?_;cbv)
  exact zF (h1 h).symm
 ·cbv;refine zG (λg=>?_) (λg=>?_)
  ·cbv
   (refine rC ?_;cbv)
   exact zF (h2 h g).symm
  ·cbv
   (refine rC ?_;cbv)
   exact zF (h3 h g).symm
def Sp (x:Int):List PV:=[iV x]
def Fq (a:Int):yX qT (Sp a)=true:=rfl
def CA (a:Int):(Sp a).length=1:=rfl
def orL:List Int->Int
 |[]=>0| x::r=>orI x (orL r)
def sOr (l:List Int)(hl:l.length<2^40):zH 222 [.sl (λ_=>enc Sp l)] (iV (orL l)):=by
 refine sF Tryz.f222 ?_;generalize hr:orL l=r;cbv;refine zY (σ:=Nat) (λi=>⟨[(3,iV 0),(6,.sl (λ_=>enc Sp l)),(7,iV l.length),(8,iV i)],[]⟩)
  (λi=>i<=l.length/\r=orL (l.drop i)) (λi=>l.length-i) 0 ⟨om,hr.symm⟩ (.le ?_ ?_ rfl) ?_
 {cbv;exact⟨lR,lR,zF (by (try dsimp only [zS] at *);rw[zB]),lR,trivial⟩};{cbv};clear hr;intro i hs;obtain⟨h1,h2⟩:=hs;cbv;refine zG (λh5=>?_) (λh5=>?_)
 ·(cbv;refine wB (l:=l) i (by (grind) <;> (try simp only[zJ] at *) <;> omega) om Fq CA (λt ht=>?_);rw[yJ ht,show orL (t::l.drop (i+1))=orI t (orL (l.drop (i+1))) from rfl] at h2;have h3:t≠0->r=t:=λh=>by rw[h2];exact if_pos h);have h4:t=0->r=orL (l.drop (i+1)):=λh=>by rw[h2];exact if_neg (λg=>g h)
  clear h2;cbv;refine zG (λh6=>?_) (λh6=>?_);{have h4':=h4 h6;cbv;refine⟨zE om om,i+1,⟨om,h4'⟩,om,.le ?_ ?_ rfl⟩;{cbv;exact⟨lR,lR,lR,zF om,trivial⟩};{cbv}}
  ·have h3':=h3 h6;cbv
   (refine rC ?_;cbv)
   exact zF h3'.symm
 ·have:i=l.length:=om;rw[this,vE] at h2;cbv
  (refine rC ?_;cbv)
  exact zF h2.symm
def PI (a b:Row):zH 179 [rwv a,rwv b] (iV (bU a b)):=by
 refine sF Tryz.f179 ?_;have c1:=H2 a.k b.k;have c2:=H2 a.i b.i;have c3:=H2 a.lo b.lo;have c4:=H2 a.hi b.hi;have c5:=sOr [cI a.k b.k,cI a.i b.i,cI a.lo b.lo,cI a.hi b.hi] (by simp);have e:orL [cI a.k b.k,cI a.i b.i,cI a.lo b.lo,cI a.hi b.hi]=bU a b:=by
  (unfold bU orL orL orL orL orL;have:∀ x,orI x 0=x:=λx=>by grind [orI]);rw[this]
 rw[e] at c5;generalize bU a b=r at *;generalize cI a.k b.k=x1 at *;generalize cI a.i b.i=x2 at *;generalize cI a.lo b.lo=x3 at *;generalize cI a.hi b.hi=x4 at *;cbv;refine zP 22 (by cbv) ?_;cbv;refine dA c1 ?_;cbv;refine dA c2 ?_;cbv;refine dA c3 ?_;cbv;refine dA c4 ?_;cbv;refine wK (by exact⟨zU rfl,trivial⟩) c5 rfl ?_;cbv;exact rA
def ML (a b:Mult):zH 178 [.agg (mc a),.agg (mc b)] (iV (bU a.row b.row)):=by refine sF Tryz.f178 ?_;have c1:=PI a.row b.row;generalize bU a.row b.row=r at *;cbv;refine cA c1 ?_;cbv;exact rA
def MM (a:Mult)(ha:a.c.num.length<2^40):zH 175 [.agg (mc a)] (zM (decide (yG a.c.q<0))):=by refine sF Tryz.f175 ?_;have c1:=s86 a.c ha;generalize yG a.c.q=r at *;cbv;refine cA c1 ?_;cbv;exact rA
def tK:Option Row->List Mult->Bool
 |_,[]=>true
 |p,m::r=>decide (0<yG m.c.q)&&(m.c.ok&&((match p with
  |none=>true| some w=>decide (bU w m.row<0))&&tK (some m.row) r))
end Go.Proofs.YtboocdbmnfjomaaGreat
