/- A part of the proof: RuB, RuC, RuD, RuE, RuF, RuG, RuH, RuI, SpV, UtB, RuJ. -/
import Derived.Test.YtaeaffgjdcigoaaGreatG27
import Derived.Test.YtaeaffgjdcigoaaGreatG25
import Derived.Test.YtaeaffgjdcigoaaGreatG24
import Derived.Test.YtaeaffgjdcigoaaGreatG39
import Derived.Test.YtaeaffgjdcigoaaGreatG26
import Derived.Test.YtaeaffgjdcigoaaGreatG21
set_option linter.all false
namespace Go.Proofs.YtaeaffgjdcigoaaGreat
open Go
set_option maxRecDepth 100000
set_option maxHeartbeats 4000000
def GL {s:Scp}:∀ {l:List Mult} {acc f:F},Cn acc.ts->sumL s acc l=some f->Cn f.ts
 |[],acc,f,h,e=>by cases e;exact h
 |m::r,acc,f,h,e=>by
  unfold sumL at e;cases hx:s.fm m.row with
  |none=>grind| some g =>
   rw[hx] at e;exact GL (h.mrg (pI (Aj hx))) e
theorem Scp.sum_can (s:Scp)(l:List Mult):Cn (s.sum l).2.ts:=by unfold Scp.sum;split;{exact Cn.nil};{split;{exact Cn.nil};{rename_i h;exact GL (acc:=F.zero) Cn.nil h}}
theorem Scp.sum_fl' {s:Scp}{l:List Mult}(h:SumOk s l):(s.sum l).2.fl (2^26) (2^30):=by unfold Scp.sum;split;{exact zero_fl.mono (by decide) (by decide)};{split;{exact zero_fl.mono (by decide) (by decide)};{rename_i f hf;exact h.pre l.length f (by grind)}}
def Scp.provesR (s:Scp) (f:A) (l:List Mult):Bool:=decide ((s.sum l).1=0)&&(f.valid 4611686018427387904&&(decide ((f.f.sub (s.sum l).2).ts.length=0)&&decide (0<=z3 (f.f.sub (s.sum l).2).c)))
def GZ (s:Scp)(f:A)(l:List Mult)(hs:s.sz (2^20))(hf:f.sz (2^22))(hft:f.ts.length<=2^34)(hok:SumOk s l):zD 108 [sv s,av f,mlv l] (bV (s.provesR f l)):=by
 refine sF Tryz.f108 ?_;have cs:=Ql s l hs hok;have cv:=Dv f 4611686018427387904 (hf.mono (by decide));have fl:=Scp.sum_fl' hok;have fc:=Scp.sum_can s l;have hff:f.f.fl (2^22) (2^34):=hf.fl (by decide) hft;have fr:Fits (2^34) (f.f.sub (s.sum l).2).c:=((hff.sub fl).mono (by decide) (yD _)).c;have cb:f.valid 4611686018427387904=true->zD 164 [av f,av (fA (s.sum l).2)] (av (fA (f.f.sub (s.sum l).2))):=λh=>by obtain⟨h1,h2⟩:=cT h;have:=Yr h2 fc hff fl (by decide) (by decide) (by decide) (by decide);dsimp only [fv] at this;simp_all
 have cg:=s35 (zG (f.f.sub (s.sum l).2).c) (xF (zT fr).n (by decide));rw[zV] at cg;have hr:s.provesR f l=(decide ((s.sum l).1=0)&&(f.valid 4611686018427387904&&(decide ((tR (f.f.sub (s.sum l).2).ts).length=0)&&decide (0<=z3 (f.f.sub (s.sum l).2).c)))):=by rw[w4];rfl
 rw[hr];dsimp only [fv] at cs;have e1:fA (f.f.sub (s.sum l).2)=⟨tR (f.f.sub (s.sum l).2).ts,zG (f.f.sub (s.sum l).2).c⟩:=rfl;rw[e1] at cb;clear hr e1 fl fr hff hf hs hok fc;generalize z3 (f.f.sub (s.sum l).2).c=sg at *;generalize zG (f.f.sub (s.sum l).2).c=C at *;generalize tR (f.f.sub (s.sum l).2).ts=T at *;generalize fA (s.sum l).2=V at *;generalize (s.sum l).1=e at *;generalize f.valid 4611686018427387904=vd at *;cbv;refine cA cs ?_;cbv;refine zQ (λh=>?_) (λh=>?_)
 ·cbv;refine cA cv ?_;cbv;refine zP (λh2=>?_) (λh2=>?_)
  ·have cb':=cb h2;cbv;refine cA cb' ?_;cbv;refine zQ (λh3=>?_) (λh3=>?_)
   ·cbv;refine cA cg ?_;cbv
    (refine rC ?_;cbv)
    refine z4 ?_;rw[decide_eq_true h,h2,decide_eq_true (p:=T.length=0) (by rw[zA] at h3;exact om)];simp
   ·cbv
    (refine rC ?_;cbv)
    refine zK ?_;rw[decide_eq_false (p:=T.length=0) (by rw[zA] at h3;exact om)];simp
  ·cbv
   (refine rC ?_;cbv)
   exact zK (by grind)
 ·cbv
  (refine rC ?_;cbv)
  exact zK (by grind)
def Rf (s:Scp)(l:List Mult)(hs:s.sz (2^20))(hok:SumOk s l):zD 107 [sv s,mlv l] (bV (s.refutes l)):=by
 refine sF Tryz.f107 ?_;have cs:=Ql s l hs hok;have fl:=Scp.sum_fl' hok;have cg:=s35 (zG (s.sum l).2.c) (xF (zT fl.c).n (by decide));rw[zV] at cg;have hr:s.refutes l=(decide ((s.sum l).1=0)&&(decide ((tR (s.sum l).2.ts).length=0)&&decide (z3 (s.sum l).2.c<0))):=by rw[w4];rfl
 rw[hr];dsimp only [fv] at cs;have e1:fA (s.sum l).2=⟨tR (s.sum l).2.ts,zG (s.sum l).2.c⟩:=rfl;rw[e1] at cs;clear hr e1 fl hs hok;generalize z3 (s.sum l).2.c=sg at *;generalize zG (s.sum l).2.c=C at *;generalize tR (s.sum l).2.ts=T at *;generalize (s.sum l).1=e at *;cbv;refine cA cs ?_;cbv;refine zQ (λh=>?_) (λh=>?_)
 ·cbv;refine zQ (λh3=>?_) (λh3=>?_)
  ·cbv;refine cA cg ?_;cbv
   (refine rC ?_;cbv)
   refine z4 ?_;rw[decide_eq_true h,decide_eq_true (p:=T.length=0) (by rw[zA] at h3;exact om)];simp
  ·cbv
   (refine rC ?_;cbv)
   refine zK ?_;rw[decide_eq_false (p:=T.length=0) (by rw[zA] at h3;exact om)];simp
 ·cbv
  (refine rC ?_;cbv)
  exact zK (by grind)
def PG {vars:Int}:∀ {ts:List (Int×R)} {p:Int},vT vars p ts=true->∀ t,t∈tq ts->0<=t.1/\t.1<vars
 |[],p,_,t,ht=>absurd ht (by simp[tq])| x::r,p,h,t,ht=>by unfold vT at h;simp only[yK,decide_eq_true_eq] at h;rcases yI.1 (show t∈(x.1,x.2.q)::tq r from ht) with rfl|ht;{omega};{exact PG h.2 t ht}
theorem A.valid_wf {a:A}{vars:Int}(h:a.valid vars=true):a.f.wf vars:=⟨(cT h).2,λt ht=>by unfold A.valid at h;rw[yK] at h;exact PG h.1 t ht⟩
def NL {q:Qry}(h:q.valid=true){p:A}(hp:p∈q.g.us):p.f.wf 2000:=by have hv:=Qry.vok_of h;unfold Qry.valid Grp.valid Reg.valid at h;simp only[yK,decide_eq_true_eq,gG] at h;obtain⟨⟨⟨⟨h1,h2⟩,h3⟩,⟨h4,h5⟩,h6⟩,h7⟩:=h;obtain⟨j,hj,hh⟩:=U5 h2 hp;exact (A.valid_wf hh).mono oM
def Ph {m:Lem}{p:F}{n:Int}(hp:p.wf n):(m.form p).wf n:=by unfold Lem.form;split;{exact (F.wf.merge hp (F.wf.num _ _)).scale};{exact F.wf.merge hp (F.wf.num _ _)}
def HW {s:Scp}{g:F}{l:List Mult}(h:g.wf 2000):s.provesR (fA g) l=s.proves (fA g) l:=by unfold Scp.provesR Scp.proves;rw[(h.mono (by decide)).valid,(h.mono (by decide)).valid]
def Rg (s:Scp)(m:Lem)(hs:s.sz (2^20))(hm:m.v.sz (2^20))(hok:SumOk s m.pf):zD 106 [sv s,lv' m] (bV (s.lemB m)):=by
 refine sF Tryz.f106 ?_;have cvd:=Dz m.v (hm.mono (by decide));have crv:=oK s.q (hs.q.mono (by decide));have hno:¬(0<=m.u/\m.u<s.q.g.us.length)->s.lemB m=false:=λh=>by grind [Scp.lemB]
 have hno2:m.v.ok=false->s.lemB m=false:=λh=>by grind [Scp.lemB]
 have hno3:s.q.valid=false->s.lemB m=false:=λh=>by grind [Scp.lemB]
 have hyes:∀ p,0<=m.u->m.u<s.q.g.us.length->m.v.ok=true->s.q.valid=true->s.q.g.us[m.u.toNat]?=some p->s.lemB m=s.proves (fA (m.form p.f)) m.pf:=λp h1 h2 h3 h4 h5=>by grind [Scp.lemB]
 have hfp:∀ p,s.q.valid=true->p∈s.q.g.us->p.f.fl (2^20) 2000:=λp h hp=>(hs.q.g.us.sz p hp).fl (by decide) ((Qry.vok_of h).up p hp);have hcs:∀ p,s.q.valid=true->m.v.ok=true->p∈s.q.g.us->zD 164 [av p,av ⟨[],m.v⟩] (av (fA (p.f.sub (F.num m.v.q)))):=λp h h' hp=>by obtain⟨h1,h2⟩:=(Qry.can_of h).us p hp;have:=Yr h2 (Cn.nil:Cn (F.num m.v.q).ts) (hfp p h hp) (u6 (hm.fits (by decide))) (by decide) (by decide) (by decide) (by decide);dsimp only [fv] at this;rw[h1,show fA (F.num m.v.q)=⟨[],zG m.v.q⟩ from rfl,Fi h'] at this;omega
 have hcm:∀ p,s.q.valid=true->p∈s.q.g.us->zD 100 [av (fA (p.f.sub (F.num m.v.q))),rv (zG ((-1:Int):Rat))] (av (fA ((p.f.sub (F.num m.v.q)).scale (-1)))):=λp h hp =>
  fO ((hfp p h hp).sub (u6 (hm.fits (by decide)))) wI (by decide) (by decide) (m:=1) (by decide)
 have hcp:∀ p,s.q.valid=true->p∈s.q.g.us->zD 108 [sv s,av (fA (m.form p.f)),mlv m.pf] (bV (s.proves (fA (m.form p.f)) m.pf)):=λp h hp=>by have ff:=Pi (m:=m) (hfp p h hp) (hm.fits (by decide));have:=GZ s (fA (m.form p.f)) m.pf hs ((UN ff (by decide)).mono (by decide)) (by rw[show (fA (m.form p.f)).ts=tR (m.form p.f).ts from rfl,w4];have:=ff.len;omega) hok;rw[HW (Ph (NL h hp))] at this;omega
 have c1:=s32 (-1) (by decide) (by decide);have cnm:=i4 m.v;have hul:=hs.q.g.us.len;generalize hres:s.lemB m=res at *;generalize m.v.ok=ok at *;generalize hvd:s.q.valid=vd at *;clear hres hs hm hok hfp;cbv;refine cA crv ?_;cbv;refine yA (λe4=>?_) (λe4=>?_)
 rotate_left
 ·cbv
  (refine rC ?_;cbv)
  exact zK (hno3 e4)
 cbv;refine zQ (λe1=>?_) (λe1=>?_)
 ·cbv
  (refine rC ?_;cbv)
  exact zK (hno om)
 cbv;refine zQ (λe2=>?_) (λe2=>?_)
 ·cbv
  (refine rC ?_;cbv)
  exact zK (hno (by rw[zA] at e2;exact om))
 rw[zA] at e2;cbv;refine cA cvd ?_;cbv;refine zP (λe3=>?_) (λe3=>?_)
 rotate_left
 ·cbv
  (refine rC ?_;cbv)
  exact zK (hno2 e3)
 obtain⟨p,hp⟩:∃ p,s.q.g.us[m.u.toNat]?=some p:=zO (by exact om);have hmem:=zX hp;have hr:=hyes p (by exact om) (by exact om) e3 e4 hp;have cs:=hcs p e4 e3 hmem;have cm:=hcm p e4 hmem;have cp:=hcp p e4 hmem;have hu:m.u=((m.u.toNat:Nat):Int):=by exact om
 have hform:m.form p.f=if m.up=true then (p.f.sub (F.num m.v.q)).scale (-1) else p.f.sub (F.num m.v.q):=rfl
 have idx:∀ {K:List PV->Prop},K (ac p)->IdxOk 4 (λ_=>enc ac s.q.g.us) (λ_=>m.u) K:=λhK=>y6 hp hu qS j6 hK;rw[hr];clear hr hcs hcm hcp hyes hno hno2 hno3 cvd crv;obtain⟨G,hG⟩:=ex (fA (p.f.sub (F.num m.v.q)));obtain⟨G2,hG2⟩:=ex (fA ((p.f.sub (F.num m.v.q)).scale (-1)));obtain⟨M1,hM1⟩:=ex (zG ((-1:Int):Rat));rw[hG] at cs cm;rw[hG2,hM1] at cm;rw[hM1] at c1;generalize s.proves (fA (m.form p.f)) m.pf=res' at *;cbv;refine kJ 13 (by cbv) (by cbv) ?_;cbv;refine idx ?_;cbv;refine dA cnm ?_;cbv;refine dA cs ?_;cbv;refine zP (λe5=>?_) (λe5=>?_);{rw[hform,if_pos e5,hG2] at cp;cbv;refine zM 3 (by cbv) ?_;cbv;refine dA c1 ?_;cbv;refine dA cm ?_;cbv;refine cA cp ?_;cbv;exact rA};{rw[hform,if_neg (by grind),hG] at cp;cbv;refine cA cp ?_;cbv;exact rA}
def T9 (s:Scp)(hs:s.sz (2^20))(hok:∀ (i:Nat) (m:Lem),s.lems[i]?=some m->SumOk (s.pre i) m.pf):zD 41 [sv s] (bV s.scopeB):=by
 refine sF Tryz.f41 ?_;have crv:=oK s.q (hs.q.mono (by decide));have cF:=λ(d:Dec) (hd:d∈s.path)=>G5 s.q d (hs.q.mono (by decide)) ((hs.path.sz d hd).mono (by decide));have hcl:∀ i m,s.lems[i]?=some m->zD 106 [sv ⟨s.q,s.path,s.lems.take i⟩,lv' m] (bV ((s.pre i).lemB m)):=λi m hm =>
  Rg (s.pre i) m (Scp.pre_sz hs i) (hs.lems.sz m (zX hm)) (hok i m hm)
 have hr:s.scopeB=(s.q.valid&&((s.path.all λd=>s.q.valid&&d.fits s.q)&&vV s 0 s.lems)):=rfl;have hll:=hs.lems.len;have hpl:=hs.path.len;have hcons:∀ i m r,vV s i (m::r)=((s.pre i).lemB m&&vV s (i+1) r):=λ_ _ _=>rfl;obtain⟨LF,hLF⟩:=ex (vV s);have hnil:∀ i,LF i []=true:=λi=>by rw[<-hLF];rfl
 obtain⟨P,hP⟩:∃ P:Dec->Bool,∀ d,P d=(s.q.valid&&d.fits s.q):=⟨_,λ_=>rfl⟩;rw[hLF] at hr hcons;simp only[<-hP] at hr cF;obtain⟨LB',hLB⟩:∃ LB:Nat->Lem->Bool,∀ i m,LB i m=(s.pre i).lemB m:=⟨_,λ_ _=>rfl⟩;simp only[<-hLB] at hcons hcl;generalize s.scopeB=res at *;generalize s.q.valid=vd at *;clear hs hok hLF hP hLB;cbv;refine cA crv ?_;cbv;refine zP (λe1=>?_) (λe1=>?_)
 rotate_left
 ·cbv
  (refine rC ?_;cbv)
  exact zK (by grind)
 rw[e1,yN] at hr;cbv;refine zW (σ:=Nat) (λi=>⟨[(1,.ptr 1 0),(3,iV i)],[(1,.box (sc s))]⟩)
  (λi=>i<=s.path.length/\res=((s.path.drop i).all P&&LF 0 s.lems)) (λi=>s.path.length-i) 0 ⟨by omega,hr⟩ (wkZ) ?_
 clear hr crv;intro i hi;obtain⟨h1,h2⟩:=hi;cbv;refine zE (λh5=>?_) (λh5=>?_)
 ·have hlt:=uL h5;obtain⟨d,hd⟩:=zO hlt;have cf:=cF d (zX hd);rw[zU hd,List.all_cons] at h2;generalize P d=pd at *;clear hcl hcons;cbv;refine zM 9 (by cbv) ?_;cbv;refine yB hd uW qN ?_;cbv;refine dA cf ?_;cbv;refine zP (λe2=>?_) (λe2=>?_);{rw[e2,yN] at h2;cbv;exact⟨zC om om,i+1,⟨om,h2⟩,om,wkZ⟩}
  ·cbv
   (refine rC ?_;cbv)
   exact zK (by grind)
 have hi':=kU h5 h1;rw[hi',wD,List.all_nil,yN] at h2;clear cF h5 h1 hi';cbv;refine zW (σ:=Nat) (λi=>⟨[(1,.ptr 1 0),(4,iV i)],[(1,.box (sc s))]⟩)
  (λi=>i<=s.lems.length/\res=LF i (s.lems.drop i)) (λi=>s.lems.length-i) 0 ⟨by omega,h2⟩ (wkZ) ?_
 clear h2;intro i hi;obtain⟨h1,h2⟩:=hi;cbv;refine zE (λh5=>?_) (λh5=>?_)
 ·have hlt:=uL h5;obtain⟨m,hm⟩:=zO hlt;rw[zU hm,hcons] at h2;have cl:=hcl i m hm;generalize LB' i m=b at *;clear hcl hcons;cbv;refine kJ 10 (by cbv) (by cbv) ?_;cbv;refine⟨uT om om (by rw[zA];exact om),wJ xD _,?_⟩;cbv;refine zM 8 (by cbv) ?_;cbv;refine yB hm y0 xD ?_;cbv;refine wB (by exact⟨⟨lR,lR,lR,lR,lR,lR,lR,lR,lR,lR,lR,zS (by simp[enc,Vo]),trivial⟩,okA,trivial⟩) cl rfl ?_;cbv;refine zP (λe3=>?_) (λe3=>?_);{rw[e3,yN] at h2;cbv;exact⟨zC om om,i+1,⟨om,h2⟩,om,wkZ⟩}
  ·cbv
   (refine rC ?_;cbv)
   exact zK (by grind)
 ·have hi':=kU h5 h1;rw[hi',wD,hnil] at h2;cbv
  (refine rC ?_;cbv)
  exact yH h2
def fN (s:Scp)(unit:Int)(hs:Lsz (2^20) s.lems):zD 78 [sv s,iV unit] (.tup [iV (((s.best unit).1:Int)),iV (((s.best unit).2:Int))]):=by
 refine sF Tryz.f78 ?_;have hll:=hs.len;obtain⟨⟨⟨gn,us,os⟩,⟨lo,hi,rows⟩,⟨ts,c1,c2,c3⟩⟩,path,L⟩:=s;dsimp only at hs hll;have cc:∀ m m',m∈L->m'∈L->zD 48 [rv m.v,rv m'.v] (iV (wK m.v.q m'.v.q)):=λm m' h h'=>s42 m.v m'.v ((hs.sz m h).mono (by decide)) ((hs.sz m' h').mono (by decide));have hst:∀ n m r b,bT L unit n (m::r) b=bT L unit (n+1) r (if m.u=unit then (if m.up=true then (if b.2=0\/wK m.v.q (qT L b.2)<0 then (b.1,n+1) else b) else (if b.1=0\/0<wK m.v.q (qT L b.1) then (n+1,b.2) else b)) else b):=λ_ _ _ _=>rfl;have hva:∀ k m,L[k-1]?=some m->qT L k=m.v.q:=λk m h=>by grind [qT]
 have hni:∀ n b,bT L unit n [] b=b:=λ_ _=>rfl;have hgoal:((⟨⟨⟨gn,us,os⟩,⟨lo,hi,rows⟩,⟨ts,c1,c2,c3⟩⟩,path,L⟩:Scp).best unit)=bT L unit 0 L (0,0):=rfl;rw[hgoal];obtain⟨B,hB⟩:=ex (bT L unit 0 L (0,0));rw[hB];obtain⟨B1,B2⟩:=B;dsimp only;generalize bT L unit=BG at *;clear hgoal;cbv;refine zW (σ:=Nat×Nat×Nat) (λst=>⟨[(1,iV unit),(2,.ptr 2 0),(6,iV st.2.1),(7,iV st.2.2),(8,iV (((st.1+1:Nat):Int)))],[(2,.box [iV gn,alv us,alv os,rlv lo,rlv hi,alv rows,tsv ts,bV c1,nat c2,nat c3,dlv path,llv L])]⟩)
  (λst=>st.1<=L.length/\BG st.1 (L.drop st.1) st.2=(B1,B2)/\st.2.1<=L.length/\st.2.2<=L.length) (λst=>L.length-st.1)
  (0,0,0) ⟨by omega,hB,yU _,yU _⟩ (wkZ) ?_
 intro st hst';obtain⟨i,b1,b2⟩:=st;obtain⟨h1,h2,h3,h4⟩:=hst';dsimp only at h1 h2 h3 h4;clear hB;cbv;refine zE (λh5=>?_) (λh5=>?_)
 ·(rw[zA] at h5;have hlt:i<L.length:=by exact om);obtain⟨m,hm⟩:=zO hlt
  (have hmem:=zX hm;rw[zU hm,hst] at h2;have idx:∀ {K:List PV->Prop},K (lc m)->IdxOk 6 (λ_=>enc lc L) (λ_=>((i+1:Nat):Int)-1) K:=λhK=>y6 hm oM y0 xD hK;have hin:∀ k:Nat,k<=L.length->¬k=0->∃ m',m'∈L/\qT L k=m'.v.q/\∀ {K:List PV->Prop},K (lc m')->IdxOk 6 (λ_=>enc lc L) (λ_=>(k:Int)-1) K:=λk hk h0=>by obtain⟨m',hm'⟩:=zO (l:=L) (i:=k-1) oM;exact⟨m',zX hm',hva k m' hm',λhK=>y6 hm' oM y0 xD hK⟩);clear hst hva;cbv;refine⟨zC om om,idx ?_⟩;cbv;refine zE (λe1=>?_) (λe1=>?_)
  ·rw[if_pos e1] at h2;cbv;refine zM 19 (by cbv) ?_;cbv;refine yA (λe2=>?_) (λe2=>?_)
   ·rw[if_pos e2] at h2;cbv;refine zQ (λe3=>?_) (λe3=>?_)
    ·(have e3':b2=0:=by exact om);rw[if_pos (.inl e3')] at h2
     cbv;refine zM 20 (by cbv) ?_;cbv;refine yA (λe4=>?_) (λe4=>by rw[e2] at e4;cases e4);cbv;exact⟨zC om om,(i+1,b1,(i+1)),⟨om,h2,oM,(by grind)⟩,om,wkZ⟩
    (have e3':¬b2=0:=by exact om);obtain⟨m',hm',hv',idx'⟩:=hin b2 h4 e3'
    have cx:=cc m m' hmem hm';rw[hv'] at h2;generalize wK m.v.q m'.v.q=x at *;cbv;refine⟨zC om om,idx' ?_⟩;cbv;refine dA cx ?_;cbv;refine zE (λe5=>?_) (λe5=>?_);{rw[if_pos (.inr e5)] at h2;cbv;refine zM 20 (by cbv) ?_;cbv;refine yA (λe4=>?_) (λe4=>by rw[e2] at e4;cases e4);cbv;exact⟨zC om om,(i+1,b1,(i+1)),⟨om,h2,oM,(by grind)⟩,om,wkZ⟩};{rw[if_neg (λh=>h.elim e3' e5)] at h2;cbv;refine zM 20 (by cbv) ?_;cbv;refine yA (λe4=>?_) (λe4=>by rw[e2] at e4;cases e4);cbv;exact⟨zC om om,(i+1,b1,b2),⟨om,h2,oM,oM⟩,om,wkZ⟩}
   ·rw[if_neg (by grind)] at h2;cbv;refine zM 20 (by cbv) ?_;cbv;refine yA (λe4=>by rw[e2] at e4;cases e4) (λe4=>?_);cbv;refine zQ (λe3=>?_) (λe3=>?_)
    ·(have e3':b1=0:=by exact om);rw[if_pos (.inl e3')] at h2
     cbv;exact⟨zC om om,(i+1,(i+1),b2),⟨om,h2,(by grind),oM⟩,om,wkZ⟩
    (have e3':¬b1=0:=by exact om);obtain⟨m',hm',hv',idx'⟩:=hin b1 h3 e3'
    have cx:=cc m m' hmem hm';rw[hv'] at h2;generalize wK m.v.q m'.v.q=x at *;cbv;refine⟨zC om om,idx' ?_⟩;cbv;refine dA cx ?_;cbv;refine zE (λe5=>?_) (λe5=>?_);{rw[if_pos (.inr e5)] at h2;cbv;exact⟨zC om om,(i+1,(i+1),b2),⟨om,h2,(by grind),oM⟩,om,wkZ⟩};{rw[if_neg (λh=>h.elim e3' e5)] at h2;cbv;exact⟨zC om om,(i+1,b1,b2),⟨om,h2,oM,oM⟩,om,wkZ⟩}
  {rw[if_neg e1] at h2;cbv;exact⟨zC om om,(i+1,b1,b2),⟨om,h2,oM,oM⟩,om,wkZ⟩}
 ·(have hi:i=L.length:=by rw[zA] at h5;exact om);rw[hi,wD,hni] at h2
  obtain⟨q1,q2⟩:=Yj h2;subst q1 q2;cbv;exact rA
def G0 (a b:List (Row×Rat))(c:R)(ha:∀ t,t∈a->Fits (2^28) t.2)(hal:a.length<=2^36)(hb:∀ t,t∈b->Fits (2^23) t.2)(hbl:b.length<=32)(hc:c.sz (2^20)):zD 115 [mlv (mR a),mlv (mR b),rv c] (mlv (mR (xU a b c.q))):=by
 refine sF Tryz.f115 ?_;have hcf:Fits (2^20) c.q:=hc.fits (by decide);have c1:∀ q,Fits (2^23) q->zD 84 [rv (zG q),rv c] (rv (zG (q*c.q))):=λq hq=>by have:=s77 (zG q) c ((zT hq).mono (by decide)) (hc.mono (by decide));rw[zV] at this;omega
 have c2:∀ (l:List (Row×Rat)) (r:Row) (q:Rat),Mfit (2^30) l->Fits (2^24) q->zD 112 [mlv (mR l),rwv r,rv (zG q)] (mlv (mR (plMq l r q))):=λl r q hl hq=>by have:=Rm l r (zG q) hl ((zT hq).mono (by decide));grind [zV]
 obtain⟨A0,hA0⟩:∃ n:Nat,n=2^28:=⟨_,rfl⟩;obtain⟨L0,hL0⟩:∃ n:Nat,n=2^36:=⟨_,rfl⟩;obtain⟨D0,hD0⟩:∃ n:Nat,n=2^24+1:=⟨_,rfl⟩;rw[<-hA0] at ha;rw[<-hL0] at hal;have hAD:∀ i:Nat,i<=32->A0+i*D0<=2^30:=λi hi=>by grind
 obtain⟨G,hG⟩:∃ G:List (Row×Rat)->List (Row×Rat)->List (Row×Rat),∀ x y,G x y=xU x y c.q:=⟨_,λ_ _=>rfl⟩;have hn:∀ x,G x []=x:=λx=>by rw[hG];rfl
 have hs:∀ x t r,G x (t::r)=G (plMq x t.1 (t.2*c.q)) r:=λx t r=>by rw[hG,hG];rfl
 rw[<-hG];obtain⟨res,hres⟩:=ex (G a b);rw[hres];clear hG;have hbm:∀ (i:Nat) t,b[i]?=some t->(mR b)[i]?=some ⟨t.1,zG t.2⟩:=λi t h=>by simp[mR,uY,h]
 have hbl':(mR b).length=b.length:=jJ b;cbv;refine zW (σ:=Nat×List (Row×Rat)) (λs=>⟨[(0,mlv (mR s.2)),(1,mlv (mR b)),(5,.ptr 5 0),(7,iV s.1)],[(5,.box [bV c.neg,nat c.num,nat c.den])]⟩)
  (λs=>s.1<=b.length/\G s.2 (b.drop s.1)=res/\(∀ t,t∈s.2->Fits (A0+s.1*D0) t.2)/\s.2.length<=L0+s.1) (λs=>b.length-s.1)
  (0,a) ⟨yU _,hres,by grind,by omega⟩ (wkZ) ?_
 intro st hst;obtain⟨i,acc⟩:=st;obtain⟨h1,h2,h3,h4⟩:=hst;dsimp only at h1 h2 h3 h4;clear hres;cbv;refine zE (λh5=>?_) (λh5=>?_)
 ·(rw[zA,hbl'] at h5;have hlt:i<b.length:=by exact om);obtain⟨t,ht⟩:=zO hlt
  have hm:=hbm i t ht;have hq:=hb t (zX ht);rw[zU ht,hs] at h2;obtain⟨r,q⟩:=t;dsimp only at h2 hm hq;have d1:=c1 q hq;have d2:=c2 acc r (q*c.q) ⟨by omega,λt ht=>(h3 t ht).mono (hAD i oM)⟩ ((yY hq hcf).mono (by decide));have h3':=nC (r:=r) ((yY hq hcf).mono (show _<=2^24 by decide)) h3;have h4':=o5 acc r (q*c.q);generalize plMq acc r (q*c.q)=acc' at *;generalize zG (q*c.q)=Y at *;generalize zG q=X at *;clear c1 c2 hs hn;cbv;refine zM 14 (by cbv) ?_;cbv;refine yB hm wY xN ?_;cbv;refine yB hm wY xN ?_;cbv;refine dA d1 ?_;cbv;refine dA d2 ?_;cbv;exact⟨zC om om,(i+1,acc'),⟨om,h2,λt ht=>(h3' t ht).mono (by grind),(by grind)⟩,om,wkZ⟩
 ·(have hi:i=b.length:=by rw[zA,hbl'] at h5;exact om);rw[hi,wD,hn] at h2
  subst h2;cbv;exact rA
def Md (s:Scp)(v:Int)(hv:-4611686018427387904<=v)(hv2:v<4611686018427387904)(hn:0<=s.q.g.n)(hn2:s.q.g.n<=256):zD 253 [sv s,iV v] (mlv (mR (s.atLeastM v))):=by
 refine sF Tryz.f253 ?_;have c1:=s32 1 (by decide) (by decide);rw[show (((1:Int):Rat))=(1:Rat) by rfl] at c1;have h1:v<s.q.g.n->mR (s.atLeastM v)=[⟨⟨1,v,0,0⟩,zG 1⟩]:=λh=>by unfold Scp.atLeastM;rw[if_pos h];rfl
 have h2:¬v<s.q.g.n->mR (s.atLeastM v)=[⟨⟨5,v-s.q.g.n,0,0⟩,zG 1⟩]:=λh=>by unfold Scp.atLeastM;rw[if_neg h];rfl
 generalize mR (s.atLeastM v)=res at *;generalize zG 1=O1 at *;cbv;refine zE (λe=>?_) (λe=>?_)
 ·rw[h1 e];cbv;refine cA c1 ?_;cbv
  (refine bQ ?_;cbv)
  (refine rC ?_;cbv)
  exact zS rfl
 ·rw[h2 e];cbv;refine zM 10 (by cbv) ?_;cbv;refine⟨zC (by exact om) (by exact om),?_⟩;cbv;refine dA c1 ?_;cbv
  (refine rC ?_;cbv)
  exact zS rfl
def LI (x y:R):mkRat (sgn (x.neg != y.neg) (val x.num*y.d)) (x.d*val y.num)=x.q/y.q:=by rw[s8,R.q,R.q,<-Vv,<-Vv,<-Vv,Rat.inv_divInt,Rat.divInt_mul_divInt];unfold R.n sgn;cases x.neg <;> cases y.neg <;> simp[Rat.divInt_neg',Int.neg_mul,Int.mul_neg]
def Dt {q:Rat}:z3 q=0↔q=0:=by grind [z3]
def Ry (x y:R)(hx:x.sz (2^31))(hy:y.sz (2^31))(h0:y.q≠0):zD 206 [rv x,rv y] (.tup [rv (zG (x.q/y.q)),iV 0]):=by
 refine sF Tryz.f206 ?_;have h1:=hx.n;have h2:=hx.d;have h3:=hy.n;have h4:=hy.d;have h7:=tJ x.den;have h8:=tJ y.den;have hyn:val y.num≠0:=λh=>h0 (by
  (have:y.n=0:=by unfold R.n;rw[h];simp[sgn]);rw[R.q,this];simp)
 have csg:=s35 y oM;have hsg:¬z3 y.q=0:=λh=>h0 (Dt.1 h);have cux:=HP x.den oM;have cuy:=HP y.den oM;have cm:=s99 (jU x.den) y.num oM oM;have hml:=f9 (jU x.den) y.num;rw[bX] at cm hml;have cn:=s99 x.num (jU y.den) oM oM;have hnl:=f9 x.num (jU y.den);rw[bX] at cn hnl;have cq:=C6 (x.neg != y.neg) (zJ (val x.num*y.d)) (zJ (x.d*val y.num)) oM oM (by rw[zR];exact Vw x.d_ne hyn);rw[zR,zR,LI] at cq;have hb:(x.neg != y.neg)=!decide (x.neg=y.neg):=by grind
 clear hml hnl hx hy h0;generalize zG (x.q/y.q)=W at *;generalize z3 y.q=sg at *;generalize zJ (x.d*val y.num)=M at *;generalize zJ (val x.num*y.d)=P at *;generalize jU x.den=ux at *;generalize jU y.den=uy at *;obtain⟨a,b,c⟩:=x;obtain⟨a',b',c'⟩:=y;simp only at *;generalize (a != a')=nb at *;cbv;refine cA csg ?_;cbv;refine yE hsg ?_;cbv;refine zM 18 (by cbv) ?_;cbv;refine dA cuy ?_;cbv;refine dA cn ?_;cbv;refine dA cux ?_;cbv;refine dA cm ?_;cbv;refine wB (by exact⟨vM hb,lR,lR,trivial⟩) cq rfl ?_;cbv;exact rA
def Mc (s:Scp)(v:Int)(hs:Lsz (2^20) s.lems)(hv:-4611686018427387904<=v)(hv2:v<4611686018427387904)(hn:0<=s.q.g.n)(hn2:s.q.g.n<=256):zD 252 [sv s,iV v] (.tup [mlv (mR ((s.atMostM v).getD [])),bV ((s.atMostM v).isSome)]):=by
 refine sF Tryz.f252 ?_;have c1:=s32 1 (by decide) (by decide);rw[show (((1:Int):Rat))=(1:Rat) by rfl] at c1;have cb:=fN s (v-s.q.g.n) hs;have hbs:=λk h h0=>kS (s:=s) (unit:=v-s.q.g.n) (k:=k) h h0;have hss:=hs.sz;have hva:∀ k m,s.lems[k-1]?=some m->qT s.lems k=m.v.q:=λk m h=>by unfold qT;rw[h];rfl
 have h1:v<s.q.g.n->s.atMostM v=some [(⟨2,v,0,0⟩,1)]:=λh=>by unfold Scp.atMostM;rw[if_pos h]
 have h2:¬v<s.q.g.n->(s.best (v-s.q.g.n)).1=0\/(s.best (v-s.q.g.n)).2=0->s.atMostM v=none:=λh h'=>by unfold Scp.atMostM;rw[if_neg h,if_pos h']
 have h3:¬v<s.q.g.n->¬((s.best (v-s.q.g.n)).1=0\/(s.best (v-s.q.g.n)).2=0)->s.atMostM v=some (upM (v-s.q.g.n) (s.best (v-s.q.g.n)).1 (s.best (v-s.q.g.n)).2 (qT s.lems (s.best (v-s.q.g.n)).1) (qT s.lems (s.best (v-s.q.g.n)).2)):=λh h'=>by unfold Scp.atMostM;rw[if_neg h,if_neg h']
 generalize s.atMostM v=o at *;generalize s.best (v-s.q.g.n)=B at *;obtain⟨b1,b2⟩:=B;dsimp only at h2 h3 hbs cb;have hll:=hs.len;obtain⟨⟨⟨gn,us,os⟩,⟨lo,hi,rows⟩,⟨ts,c1',c2',c3'⟩⟩,path,L⟩:=s;dsimp only at *;obtain⟨res,hres⟩:=ex (mR (o.getD []));obtain⟨bb,hbb⟩:=ex o.isSome;rw[hres,hbb];have r1:v<gn->res=[⟨⟨2,v,0,0⟩,zG 1⟩]/\bb=true:=λh=>by rw[<-hres,<-hbb,h1 h];exact⟨rfl,rfl⟩
 have r2:¬v<gn->b1=0\/b2=0->res=[]/\bb=false:=λh h'=>by rw[<-hres,<-hbb,h2 h h'];exact⟨rfl,rfl⟩
 have r3:¬v<gn->¬(b1=0\/b2=0)->∀ m1 m2,L[b1-1]?=some m1->L[b2-1]?=some m2->res=mR (upM (v-gn) b1 b2 m1.v.q m2.v.q)/\bb=true:=λh h' m1 m2 g1 g2=>by rw[<-hres,<-hbb,h3 h h',hva b1 m1 g1,hva b2 m2 g2];exact⟨rfl,rfl⟩
 clear h1 h2 h3 hres hbb hva hs;obtain⟨O1,hO1⟩:=ex (zG 1);rw[hO1] at c1 r1;cbv;refine cA c1 ?_;cbv;refine zE (λe=>?_) (λe=>?_)
 ·obtain⟨q1,q2⟩:=r1 e;subst q1 q2;cbv
  (refine bQ ?_;cbv)
  (refine rC ?_;cbv)
  exact⟨zS rfl,yH rfl,trivial⟩
 cbv;refine⟨zC (by exact om) (by exact om),?_⟩;cbv;refine cA cb ?_;cbv;refine zQ (λe1=>?_) (λe1=>?_);{obtain⟨q1,q2⟩:=r2 e (.inl (by exact om));subst q1 q2;cbv;exact rA};cbv;refine zE (λe2=>?_) (λe2=>?_);{obtain⟨q1,q2⟩:=r2 e (.inr (by exact om));subst q1 q2;cbv;exact rA};have e1':b1≠0:=by exact om
 have e2':b2≠0:=by exact om
 obtain⟨m1,g1,_⟩:=hbs b1 (.inl rfl) e1';obtain⟨m2,g2,_⟩:=hbs b2 (.inr rfl) e2';have r3':=r3 e oM m1 m2 g1 g2;have z1:=hss m1 (zX g1);have z2:=hss m2 (zX g2);have l1:=(xP.1 g1).1;have l2:=(xP.1 g2).1;have i1:∀ {K:List PV->Prop},K (lc m1)->IdxOk 6 (λ_=>enc lc L) (λ_=>(b1:Int)-1) K:=λhK=>y6 g1 oM y0 xD hK;have i2:∀ {K:List PV->Prop},K (lc m2)->IdxOk 6 (λ_=>enc lc L) (λ_=>(b2:Int)-1) K:=λhK=>y6 g2 oM y0 xD hK;have csl:=s35 m1.v (by have:=z1.n;omega);have csu:=s35 m2.v (by have:=z2.n;omega);have cdf:=s93 m2.v m1.v (z2.mono (by decide)) (z1.mono (by decide));have fu:=z2.fits (by decide);have fd:=vC fu (z1.fits (by decide));have cdv:m2.v.q-m1.v.q≠0->zD 206 [rv O1,rv (zG (m2.v.q-m1.v.q))] (.tup [rv (zG (1/(m2.v.q-m1.v.q))),iV 0]):=λh=>by have:=Ry (zG 1) (zG (m2.v.q-m1.v.q)) ((zT fits_one).mono (by decide)) ((zT fd).mono (by decide)) (by rw[zV];exact h);rw[zV,zV,hO1] at this;exact this
 have fq:Fits (2^22) (1/(m2.v.q-m1.v.q)):=by rw[s8];exact (yY fits_one (bD fd)).mono (by decide)
 have cmu:=s77 (zG (1/(m2.v.q-m1.v.q))) m2.v ((zT fq).mono (by decide)) (z2.mono (by decide));rw[zV] at cmu;have hne:¬z3 m2.v.q<=0->¬0<=z3 m1.v.q->m2.v.q-m1.v.q≠0:=λh h'=>by
  (have hu:0<m2.v.q:=by unfold z3 at h;split at h <;> (try split at h) <;> grind);have hl:m1.v.q<0:=by unfold z3 at h';split at h' <;> (try split at h') <;> grind
  grind
 have ra:z3 m2.v.q<=0->res=[⟨⟨10,v-gn,0,b2⟩,O1⟩]:=λh=>by rw[r3'.1,<-hO1];unfold upM;rw[if_pos h];rfl
 have rb:¬z3 m2.v.q<=0->0<=z3 m1.v.q->res=[⟨⟨8,v-gn,b1,0⟩,O1⟩,⟨⟨12,v-gn,0,b2⟩,O1⟩]:=λh h'=>by rw[r3'.1,<-hO1];unfold upM;rw[if_neg h,if_pos h'];rfl
 have rcc:¬z3 m2.v.q<=0->¬0<=z3 m1.v.q->res=[⟨⟨12,v-gn,0,b2⟩,zG (1/(m2.v.q-m1.v.q)*m2.v.q)⟩,⟨⟨13,v-gn,b1,b2⟩,zG (1/(m2.v.q-m1.v.q))⟩]:=λh h'=>by rw[r3'.1];unfold upM;rw[if_neg h,if_neg h'];rfl
 obtain⟨_,q2⟩:=r3';subst q2;have cdv':=λh h'=>cdv (hne h h');clear cdv hne fq fd fu z1 z2 r1 r2 r3 cb hbs c1;generalize z3 m2.v.q=su at *;generalize z3 m1.v.q=sl at *;generalize zG (1/(m2.v.q-m1.v.q)*m2.v.q)=M at *;generalize zG (1/(m2.v.q-m1.v.q))=Q at *;generalize zG (m2.v.q-m1.v.q)=D at *;cbv;refine vD 17 [(16,10)] (by cbv) (by cbv) (by cbv) ?_;cbv;refine⟨zC (by exact om) (by exact om),i1 ?_⟩;cbv;refine⟨zC (by exact om) (by exact om),i2 ?_⟩;cbv;refine cA csu ?_;cbv;refine zE (λe3=>?_) (λe3=>?_)
 ·have q1:=ra e3;subst q1;cbv
  (refine bQ ?_;cbv)
  (refine rC ?_;cbv)
  exact⟨zS rfl,yH rfl,trivial⟩
 cbv;refine cA csl ?_;cbv;refine zE (λe4=>?_) (λe4=>?_)
 ·have q1:=rb e3 e4;subst q1;cbv
  (refine bQ ?_;cbv)
  (refine rC ?_;cbv)
  exact⟨zS rfl,yH rfl,trivial⟩
 have q1:=rcc e3 e4;have cd:=cdv' e3 e4;subst q1;cbv;refine vD 10 [(9,12)] (by cbv) (by cbv) (by cbv) ?_;cbv;refine dA cdf ?_;cbv;refine dA cd ?_;cbv;refine zM 13 (by cbv) ?_;cbv;refine dA cmu ?_;cbv
 (refine bQ ?_;cbv)
 (refine rC ?_;cbv)
 exact⟨zS rfl,yH rfl,trivial⟩
structure AbvOk (s:Scp) (f:F):Prop where
 cn:Cn f.ts
 fl:f.fl (2^20) (2^30)
 v:∀ t,t∈f.ts->-4611686018427387904<=t.1/\t.1<4611686018427387904
 pre:∀ i l,s.aboveL (f.ts.take i) []=some l->(∀ t,t∈l->Fits (2^28) t.2)/\l.length<=2^36
 most:∀ t,t∈f.ts->∀ more,s.atMostM t.1=some more->(∀ x,x∈more->Fits (2^20) x.2)/\more.length<=32
 sum:∀ l,s.aboveL f.ts []=some l->SumOk s (mR l)
def YM {s:Scp}{t:Int×Rat}{more:List (Row×Rat)}(ht:(if 0<z3 t.2 then some (s.atLeastM t.1) else s.atMostM t.1)=some more):∀ {ts:List (Int×Rat)} {l l':List (Row×Rat)},s.aboveL ts l=some l'->s.aboveL (ts++[t]) l=some (xU l' more (vP t.2))
 |[],l,l',h=>by cases h;rw[Hc];unfold Scp.aboveL;rw[ht];rfl
 |x::r,l,l',h=>by
  rw[Yh];unfold Scp.aboveL at h ⊢;cases hx:(if 0<z3 x.2 then some (s.atLeastM x.1) else s.atMostM x.1) with
  |none=>grind| some g =>
   rw[hx] at h;exact YM ht h
def DM (s:Scp)(v:Int):(∀ x,x∈s.atLeastM v->Fits (2^20) x.2)/\(s.atLeastM v).length<=32:=by unfold Scp.atLeastM;split <;> refine⟨λx hx=>?_,by simp⟩ <;> (obtain rfl:=kC.1 hx;exact fits_one.mono (by decide))
def G3 (s:Scp)(f:F)(hs:s.sz (2^20))(hn:0<=s.q.g.n)(hn2:s.q.g.n<=256)(hok:AbvOk s f):zD 202 [sv s,fv f] (.tup [rv (zG (((s.above f).map Prod.fst).getD 0)),mlv (mR (((s.above f).map Prod.snd).getD [])),bV ((s.above f).isSome)]):=by
 refine sF Tryz.f202 ?_;have cam:∀ t,t∈f.ts->zD 252 [sv s,iV t.1] (.tup [mlv (mR ((s.atMostM t.1).getD [])),bV ((s.atMostM t.1).isSome)]):=λt ht=>Mc s t.1 hs.lems (hok.v t ht).1 (hok.v t ht).2 hn hn2;have cal:∀ t,t∈f.ts->zD 253 [sv s,iV t.1] (mlv (mR (s.atLeastM t.1))):=λt ht=>Md s t.1 (hok.v t ht).1 (hok.v t ht).2 hn hn2;have csg:∀ t,t∈f.ts->zD 30 [rv (zG t.2)] (iV (z3 t.2)):=λt ht=>by have:=s35 (zG t.2) (xF (zT (hok.fl.t t ht)).n (by decide));grind [zV]
 have cmg:∀ t,t∈f.ts->∀ a b,(∀ t,t∈a->Fits (2^28) t.2)->a.length<=2^36->(∀ t,t∈b->Fits (2^20) t.2)->b.length<=32->zD 115 [mlv (mR a),mlv (mR b),.agg [bV false,nat (zG t.2).num,nat (zG t.2).den]] (mlv (mR (xU a b (vP t.2)))):=λt ht a b h1 h2 h3 h4=>by
  (have:=G0 a b ⟨false,(zG t.2).num,(zG t.2).den⟩ h1 h2 (λt ht=>(h3 t ht).mono (by decide)) h4 (by rw[sH];exact zT (jX (hok.fl.t t ht)));have e:(⟨false,(zG t.2).num,(zG t.2).den⟩:R).q=vP t.2:=by rw[sH,zV]);simp_all
 have cfin:∀ l,s.aboveL f.ts []=some l->zD 166 [sv s,mlv (mR l)] (.tup [fv (s.sum (mR l)).2,iV ((s.sum (mR l)).1)])/\zD 164 [fv f,fv (s.sum (mR l)).2] (fv (f.sub (s.sum (mR l)).2)):=λl hl =>
  ⟨Ql s (mR l) hs (hok.sum l hl),Yr hok.cn (Scp.sum_can s _) hok.fl (Scp.sum_fl' (hok.sum l hl)) (by decide) (by decide) (by decide) (by decide)⟩
 have hab:s.above f=(s.aboveL f.ts []).map λl=>((f.sub (s.sum (mR l)).2).c,l):=rfl;rw[hab];obtain⟨o,ho⟩:=ex (s.aboveL f.ts []);rw[ho] at cfin ⊢;obtain⟨AL,hAL⟩:=ex s.aboveL;have hTn:∀ l,AL [] l=some l:=λl=>by rw[<-hAL];rfl
 have hTc:∀ t r l,AL (t::r) l=match (if 0<z3 t.2 then some (s.atLeastM t.1) else s.atMostM t.1) with
  |none=>none| some more=>AL r (xU l more (vP t.2)):=λt r l=>by rw[<-hAL];rfl
 obtain⟨PR,hPR⟩:∃ PR:Nat->List (Row×Rat)->Prop,∀ i l,PR i l=(s.aboveL (f.ts.take i) []=some l):=⟨_,λ_ _=>rfl⟩;have hPRs:∀ i t more l,f.ts[i]?=some t->(if 0<z3 t.2 then some (s.atLeastM t.1) else s.atMostM t.1)=some more->PR i l->PR (i+1) (xU l more (vP t.2)):=λi t more l h1 h2 h3=>by rw[hPR] at h3 ⊢;rw[Xt h1];exact YM h2 h3
 have hPR0:PR 0 []:=by rw[hPR];rfl
 have hpre:∀ i l,PR i l->(∀ t,t∈l->Fits (2^28) t.2)/\l.length<=2^36:=λi l h=>hok.pre i l (by grind);have hmost:=hok.most;rw[hAL] at ho;have hfl:f.ts.length<2^38:=by have:=hok.fl.len;omega
 obtain⟨V,hV⟩:=ex (fA f);have hVt:∀ (i:Nat) t,f.ts[i]?=some t->V.ts[i]?=some (t.1,zG t.2):=λi t h=>by rw[<-hV];show (tR f.ts)[i]?=_;simp[tR,uY,h]
 have hVl:V.ts.length=f.ts.length:=by rw[<-hV];exact w4 _
 have hfv:fv f=av V:=by rw[<-hV]
 rw[hfv] at cfin ⊢;obtain⟨W,hW⟩:∃ W,zG (((o.map λl=>((f.sub (s.sum (mR l)).2).c,l)).map Prod.fst).getD 0)=W:=⟨_,rfl⟩;obtain⟨RL,hRL⟩:∃ W,mR (((o.map λl=>((f.sub (s.sum (mR l)).2).c,l)).map Prod.snd).getD [])=W:=⟨_,rfl⟩;obtain⟨bb,hbb⟩:∃ W,(o.map λl=>((f.sub (s.sum (mR l)).2).c,l)).isSome=W:=⟨_,rfl⟩;rw[hW,hRL,hbb];have gN:o=none->W=R0/\RL=[]/\bb=false:=λh=>by rw[h] at hW hRL hbb;exact⟨hW.symm.trans u9,hRL.symm,hbb.symm⟩
 have gS:∀ l,o=some l->W=zG (f.sub (s.sum (mR l)).2).c/\RL=mR l/\bb=true:=λl h=>by rw[h] at hW hRL hbb;exact⟨hW.symm,hRL.symm,hbb.symm⟩
 clear hW hRL hbb hab hAL hPR hok hV hfv;obtain⟨w1,w2,w3⟩:=W;have gN':o=none->w1=false/\w2=[]/\w3=[]/\RL=[]/\bb=false:=λh=>by grind
 clear gN;cbv;refine zW (σ:=Nat×List (Row×Rat)) (λst=>⟨[(2,.ptr 2 0),(3,.ptr 3 0),(4,.ptr 4 0),(7,mlv (mR st.2)),(8,iV st.1)],[(2,.box (sc s)),(3,.box [tsv V.ts,bV V.c.neg,nat V.c.num,nat V.c.den]),(4,.box [.ff,.nil,.nil])]⟩)
  (λst=>st.1<=f.ts.length/\AL (f.ts.drop st.1) st.2=o/\PR st.1 st.2) (λst=>f.ts.length-st.1)
  (0,[]) ⟨yU _,ho,hPR0⟩ (wkZ) ?_
 intro st hst;obtain⟨i,acc⟩:=st;obtain⟨h1,h2,h4⟩:=hst;dsimp only at h1 h2 h4;clear ho hPR0;have h3:=hpre i acc h4;cbv;refine zE (λh5=>?_) (λh5=>?_)
 ·(rw[zA,hVl] at h5;have hlt:i<f.ts.length:=by exact om);obtain⟨t,ht⟩:=zO hlt
  have hmem:=zX ht;have hx:=hVt i t ht;have cam':=cam t hmem;have cal':=cal t hmem;have csg':=csg t hmem;have hmo:=hmost t hmem;have cmg':=cmg t hmem;obtain⟨X,hX⟩:=ex (zG t.2);simp only[hX] at cmg';rw[hX] at hx csg';clear cam cal csg cmg hmost hVt cfin gS;generalize hsg:z3 t.2=sg at *;cbv;refine yB hx wG wE ?_;cbv;refine cA cam' ?_;cbv;refine cA csg' ?_;cbv;refine zE (λe1=>?_) (λe1=>?_)
  ·(have HM:(if 0<z3 t.2 then some (s.atLeastM t.1) else s.atMostM t.1)=some (s.atLeastM t.1):=by rw[hsg,if_pos e1]);have hls:=DM s t.1
   (have hPn:=hPRs i t _ acc ht HM h4;have hn':AL (f.ts.drop i) acc=AL (f.ts.drop (i+1)) (xU acc (s.atLeastM t.1) (vP t.2)):=by rw[zU ht,hTc,HM]);rw[hn'] at h2
   have cm:=cmg' acc _ h3.1 h3.2 hls.1 hls.2;clear HM hTc hPRs hn' hls;generalize s.atLeastM t.1=more at *;generalize xU acc more (vP t.2)=acc' at *;cbv;refine cA cal' ?_;cbv;refine cA cm ?_;cbv;exact⟨zC om om,(i+1,acc'),⟨om,h2,hPn⟩,om,wkZ⟩
  ·(have HM0:(if 0<z3 t.2 then some (s.atLeastM t.1) else s.atMostM t.1)=s.atMostM t.1:=by rw[hsg,if_neg e1]);cases hoo:s.atMostM t.1 with
   |none =>
    (have hz:o=none:=by rw[<-h2,zU ht,hTc,HM0,hoo]);obtain⟨q1,q2,q3,q4,q5⟩:=gN' hz
    subst q1 q2 q3 q4 q5;cbv;refine zP (λe=>absurd e (by simp)) (λ_=>?_);cbv;exact rA
   |some more =>
    (have hls:=hmo more hoo;have hPn:=hPRs i t more acc ht (HM0.trans hoo) h4;have hn':AL (f.ts.drop i) acc=AL (f.ts.drop (i+1)) (xU acc more (vP t.2)):=by rw[zU ht,hTc,HM0,hoo]);rw[hn'] at h2
    (have cm:=cmg' acc more h3.1 h3.2 hls.1 hls.2;have hg:(s.atMostM t.1).getD []=more:=by rw[hoo];rfl);clear HM0 hTc hPRs hn' hls
    generalize xU acc more (vP t.2)=acc' at *;cbv;refine zP (λ_=>?_) (λe=>absurd e (by simp));cbv;refine yP rfl (by exact⟨lR,zS rfl,okA,trivial⟩) cm rfl ?_;cbv;exact⟨zC om om,(i+1,acc'),⟨om,h2,hPn⟩,om,wkZ⟩
 ·(have hi:i=f.ts.length:=by rw[zA,hVl] at h5;exact om);rw[hi,wD,hTn] at h2
  obtain⟨c1,c2⟩:=cfin acc h2.symm;obtain⟨q1,q2,q3⟩:=gS acc h2.symm;subst q2 q3
  (try dsimp only [fv] at c1 c2)
  have e1:fA (f.sub (s.sum (mR acc)).2)=⟨tR (f.sub (s.sum (mR acc)).2).ts,zG (f.sub (s.sum (mR acc)).2).c⟩:=rfl;rw[e1,<-q1] at c2;generalize tR (f.sub (s.sum (mR acc)).2).ts=TT at *;generalize fA (s.sum (mR acc)).2=SS at *;generalize (s.sum (mR acc)).1=code at *;clear q1 e1 gS gN' cfin;cbv;refine cA c1 ?_;cbv;refine cA c2 ?_;cbv;exact rA
theorem Wt.take {s:Scp}:∀ {l:List (Row×Rat)} {N:Nat},Wt s l N->∀ i,∃ M,M<=N/\Wt s (l.take i) M
 |_,_,.nil,i=>⟨0,yD _,by rw[List.take_nil];exact .nil⟩| _,_,.cons hk hg h,0=>⟨0,yU _,by rw[List.take_zero];exact .nil⟩| _,_,.cons (k:=k) (g:=g) (N:=N) hk hg h,i+1=>by obtain⟨M,h1,h2⟩:=h.take i;exact⟨k+g+5+M,by omega,by rw[List.take_succ_cons];exact .cons hk hg h2⟩
theorem Wt.fmem {s:Scp}:∀ {l:List (Row×Rat)} {N:Nat},Wt s l N->∀ t,t∈l->∀ f,s.fm t.1=some f->f.fl N 3000
 |_,_,.nil,t,ht=>absurd ht (by simp)| _,_,.cons hk hg h,t,ht=>by rcases yI.1 ht with rfl|ht;{exact λf hf=>(hg f hf).mono oM (yD _)};{exact λf hf=>(h.fmem t ht f hf).mono oM (yD _)}
theorem Wt.sumOk {s:Scp}{l:List (Row×Rat)}{N:Nat}(h:Wt s l N)(hN:N<2^26)(hf:∀ t,t∈l->∀ f,s.fm t.1=some f->f.fl (2^24) 3000)(hc:∀ t,t∈l->Fits (2^20) t.2)(hl:l.length<=100000):SumOk s (mR l) where
 fm m hm f hf':=by obtain⟨t,ht,rfl⟩:=xA.1 hm;exact (hf t ht f hf').mono (yD _) (by decide)
 c:=⟨by rw[jJ];omega,λm hm=>by obtain⟨t,ht,rfl⟩:=xA.1 hm;exact (zT (hc t ht)).mono (by decide)⟩
 pre i acc ha:=by
  (obtain⟨M,h1,h2⟩:=h.take i;rw[R9] at ha;have:=h2.sumL zero_fl ha;have hl2:(l.take i).length<=l.length:=by rw[kV];omega);exact this.mono oM oM
theorem Wt.sumOk' {s:Scp}{l:List (Row×Rat)}{N:Nat}(h:Wt s l N)(hN:N<=2^20)(hl:l.length<=100000):SumOk s (mR l) :=
 h.sumOk (xF hN (by decide)) (λt ht f hf=>(h.fmem t ht f hf).mono (vR hN (by decide)) (yD _)) (λt ht=>(h.mem t ht).mono hN) hl
def Hg {s:Scp}{x:FQry}(hq:s.q=x.q)(hx:x.small)(hL:LB KK s.lems){f:F}{j:Nat}(hj:j<=3)(hf:f.fl 46 7)(hw:f.wf ((x.g.n+j:Nat):Int)):AbvOk s f:=by
 have ok:=Te hx.g.n1 hx.g.n2 hj;have kl:=Sj j;have hn:=hx.g.n2;have hv:∀ t,t∈f.ts->((0:Nat):Int)<=t.1/\t.1<((x.g.n+j:Nat):Int):=λt ht=>by have:=hw.v t ht;omega
 have key:∀ i l,s.aboveL (f.ts.take i) []=some l->∃ M,M<=2^20/\Wt s l M/\l.length<=14:=λi l h=>by
  (obtain⟨M,h1,h2⟩:=Ym hq hx GA hL (hi:=x.g.n+j) (lo:=0) (hw.cn.take i) (λt ht=>hv t (s7 ht)) (λt ht=>hf.t t (s7 ht)) (yU _) .nil h;have h3:=eY h;have h4:=hf.len;have h5:(f.ts.take i).length<=f.ts.length:=by rw[kV];omega);have h6:pD KK x.g.n 0=0:=rfl
  (simp only[iS] at h3;refine⟨M,?_,h2,by omega⟩;have:(679650:Nat)<=2^20:=by decide);omega
 refine⟨hw.cn,hf.mono (by decide) (by decide),λt ht=>?_,λi l h=>?_,λt ht more h=>?_,λl h=>?_⟩;{have:=hv t ht;omega};{obtain⟨M,h1,h2,h3⟩:=key i l h;exact⟨λt ht=>(h2.mem t ht).mono (vR h1 (by decide)),by omega⟩}
 ·(obtain⟨v,hv1⟩:∃ v:Nat,t.1=v:=⟨t.1.toNat,by have:=hv t ht;omega⟩;rw[hv1] at h;obtain⟨B,h1,h2⟩:=Fl hq hx GA hL v h;have h3:=Jb h;refine⟨λu hu=>(h2.mem u hu).mono ?_,by omega⟩;have hlt:v+1<=x.g.n+j:=by have:=hv t ht;omega);have h4:=Yd (K:=KK) (n:=x.g.n) hlt
  (have h5:pD KK x.g.n (v+1)=pD KK x.g.n v+cst KK x.g.n v:=rfl;have:(679650:Nat)<=2^20:=by decide);omega
 {have hfull:f.ts.take f.ts.length=f.ts:=wW;obtain⟨M,h1,h2,h3⟩:=key f.ts.length l (by rw[hfull];exact h);exact h2.sumOk' h1 oM}
def Kf {t:TypeId}{base x:Operand}{d:Option Nat}{ps ps':PS}{K:PS->Prop}(hw:Wk ps ps')(h:AppK t base x d ps' K):AppK t base x d ps K:=by rcases h.h with h|h;{obtain⟨p,a1,a2,a3,a4,a5,a6,a7,a8⟩:=h.h;exact⟨.inl ⟨p,a1,a2,a3,a4,a5,a6,.trans hw a7,a8⟩⟩};{exact h.h.elim}
def p5 {α:Type}(p:α->List PV)(l:List α):((enc p l).drop 0).take l.length=enc p l:=by rw[xM,<-zA p l,wW]
def Q3 {α:Type}(p:α->List PV)(l:List α):0+l.length<=(enc p l).length:=by rw[zA];omega
def tE:ty 40=.sli 6 96 [iV 0,.ff,.ff,.nil,.nil,.nil]:=by cbv
def xJ (b:Bool) (j:Int) (up:Bool) (v:R) (l:List Mult):List Lem:=if b=true then [⟨j,up,v,l⟩] else []
def F0 (j:Int)(x y:Option (Rat×List (Row×Rat))):VQ j x y=xJ x.isSome j false (zG ((x.map Prod.fst).getD 0)) (mR ((x.map Prod.snd).getD []))++xJ y.isSome j true (zG (-(zG ((y.map Prod.fst).getD 0)).q)) (mR ((y.map Prod.snd).getD [])):=by unfold VQ xJ;grind [zV]
def kR (L:List Lem)(m:Lem):enc lc (L++[m])=enc lc L++zL [lc m]:=by simp[enc,zL]
def MY {q:Qry}{P:List Dec}(h:(⟨q,P,[]⟩:Scp).sz (2^20)){L:List Lem}{j:Nat}(hj:j<=4)(hL:Lok L j):(⟨q,P,L⟩:Scp).sz (2^20):=by refine⟨h.q,h.path,⟨by have:=hL.len;grind,λm hm=>?_,λm hm=>(hL.pf m hm).1.mono (by decide)⟩⟩;obtain⟨q,hq⟩:=hL.v m hm;obtain⟨i,_,hf⟩:=hL.lb m hm;rw[hq,zV] at hf;rw[hq];exact zT (hf.mono (vR (Sj i) (by decide)))
structure BndF (q:Qry) (P:List Dec) (j:Nat) (L:List Lem) (p p2:A) (xv yv zv:R) (xl yl:List Mult) (xb yb:Bool):Prop where
 c1:zD 202 [sv ⟨q,P,L⟩,av p] (.tup [rv xv,mlv xl,bV xb])
 c2:zD 100 [av p,rv (zG ((-1:Int):Rat))] (av p2)
 c3:zD 202 [sv ⟨q,P,L⟩,av p2] (.tup [rv yv,mlv yl,bV yb])
 c4:yb=true->zD 101 [rv yv] (rv zv)
 lok:Lok (L++(xJ xb j false xv xl++xJ yb j true zv yl)) (j+1)
 g:∀ r,Kc q P (p::r) j L=Kc q P r (j+1) (L++(xJ xb j false xv xl++xJ yb j true zv yl))
def Ca {x:FQry}(hx:x.small)(hwf:∀ (i:Nat) (f:F),x.g.us[i]?=some f->f.wf ((x.g.n+i:Nat):Int)){P:List Dec}(hP:(⟨x.q,P,[]⟩:Scp).sz (2^20)){j:Nat}{p:A}(hp:x.q.g.us[j]?=some p){L:List Lem}(hL:Lok L j):∃ p2 xv yv zv xl yl xb yb,BndF x.q P j L p p2 xv yv zv xl yl xb yb:=by
 have hp':(x.g.us.map fA)[j]?=some p:=hp;rw[uY] at hp';cases hb:x.g.us[j]? with
 |none=>grind| some b =>
  (rw[hb] at hp';have hpb:p=fA b:=by grind);have hlt:=(xP.1 hb).1
  (have hj:j<=3:=by have:=hx.g.us;omega);have hf:=hx.g.uf b (zX hb)
  (have hw:=hwf j b hb;have hs:=MY hP (by omega:j<=4) hL;have n0:0<=x.q.g.n:=by show (0:Int)<=(x.g.n:Int);omega);have n1:x.q.g.n<=256:=by have:=hx.g.n2;show (x.g.n:Int)<=256;omega
  have a1:=G3 ⟨x.q,P,L⟩ b hs n0 n1 (Hg rfl hx hL.lb hj (hf.mono (by decide) (by decide)) hw);have a3:=G3 ⟨x.q,P,L⟩ (b.scale (-1)) hs n0 n1 (Hg rfl hx hL.lb hj ((hf.scale wI).mono (by decide) (by decide)) hw.scale);have a2:=fO (q:=-1) hf wI (by decide) (by decide) (by decide);obtain⟨l1,l2⟩:=AZ hx hwf (path:=P) hb hL;rw[F0] at l1;refine⟨fA (b.scale (-1)),_,_,_,_,_,_,_,⟨by simp_all,by simp_all,a3,λh=>?_,l1,λr=>?_⟩⟩
  ·refine C4 _ ?_;cases hy:(⟨x.q,P,L⟩:Scp).above (b.scale (-1)) with
   |none=>grind| some v=>exact (zT (l2 v hy)).mono (by decide)
  {rw[hpb];show Kc x.q P r (j+1) (L++VQ j ((⟨x.q,P,L⟩:Scp).above (fA b).f) ((⟨x.q,P,L⟩:Scp).above ((fA b).f.scale (-1))))=_;rw[qP,F0]}
def Rh (raw : List UInt8) : zD 168 [svN (fdS raw)] (sv (fdS raw).bounded) := by
  refine sF Tryz.f168 ?_
  have sm := aQ raw 0
  have hwf := Au raw 0
  have hz : (fdS raw).sz (2^20) := by
    have g := Ni raw
    exact ⟨g.q.mono (by decide), ⟨g.path.len, fun d hd => (g.path.sz d hd).mono (by decide)⟩, ⟨by show 0 < 2^38; decide, fun m hm => absurd hm (by simp [fdS]), fun m hm => absurd hm (by simp [fdS])⟩⟩
  have hbg : (fdS raw).bounded = ⟨(fdY raw 0).1.q, (fdS raw).path, Kc (fdY raw 0).1.q (fdS raw).path (fdY raw 0).1.q.g.us 0 []⟩ := rfl
  have hsd : fdS raw = ⟨(fdY raw 0).1.q, (fdS raw).path, []⟩ := rfl
  rw [hbg]
  generalize (fdS raw).path = path at *
  rw [hsd] at hz ⊢
  have hF := fun j p L hp hL => Ca (j := j) (p := p) (L := L) sm hwf hz hp hL
  clear hbg hsd hwf hz
  have hul : (fdY raw 0).1.q.g.us.length ≤ 4 := by show (List.map fA _).length ≤ 4; rw [y8]; exact sm.g.us
  clear sm
  generalize (fdY raw 0).1.q = Q at *
  have cof := s32 (-1) (by decide) (by decide)
  obtain ⟨M1, hM1⟩ := ex (zG ((-1 : Int) : Rat))
  have hF' : ∀ (j : Nat) (p : A) (L : List Lem), Q.g.us[j]? = some p → Lok L j → ∃ p2 xv yv zv xl yl xb yb, BndF Q path j L p p2 xv yv zv xl yl xb yb := hF
  clear hF
  obtain ⟨⟨n, us, os⟩, ⟨lo, hi', rows⟩, ⟨ts, c⟩⟩ := Q
  dsimp only at hF' hul
  rw [hM1] at cof
  obtain ⟨G, hG⟩ := ex (Kc ⟨⟨n, us, os⟩, ⟨lo, hi', rows⟩, ⟨ts, c⟩⟩ path)
  rw [hG]
  have hGn : ∀ j L, G [] j L = L := fun j L => by rw [← hG]; rfl
  obtain ⟨L9, hL9⟩ := ex (G us 0 [])
  rw [hL9]
  cbv
  refine kJ 10 (by cbv) (by cbv) ?_
  cbv
  refine zW (σ := Nat × List Lem) (fun s => ⟨[(1, .ptr 1 0), (2, .ptr 2 0), (3, .ptr 3 0), (4, iV s.1)],
      [(1, .box [iV n, alv us, alv os, rlv lo, rlv hi', alv rows, tsv ts, bV c.neg, nat c.num, nat c.den, dlv path, .nil]), (2, .box [iV 0, .nil, .nil, .nil, .nil, .nil, .nil, .ff, .nil, .nil, .nil, .nil]), (3, .box [iV n, alv us, alv os, rlv lo, rlv hi', alv rows, tsv ts, bV c.neg, nat c.num, nat c.den, dlv path, oV 61 6 s.2.length]), (61, .lent 6 (fun _ => enc lc s.2))]⟩)
    (fun s => s.1 ≤ us.length ∧ G (us.drop s.1) s.1 s.2 = L9 ∧ Lok s.2 s.1) (fun s => us.length - s.1)
    (0, []) ⟨yU _, hL9, ⟨fun m hm => absurd hm (by simp), by simp, fun m hm => absurd hm (by simp), fun m hm => absurd hm (by simp)⟩⟩
    (.trans (wkZ (ps' := ⟨[(1, .ptr 1 0), (2, .ptr 2 0), (3, .ptr 3 0), (4, iV (((0 : Nat) : Int)))], [(1, .box [iV n, alv us, alv os, rlv lo, rlv hi', alv rows, tsv ts, bV c.neg, nat c.num, nat c.den, dlv path, .nil]), (2, .box [iV 0, .nil, .nil, .nil, .nil, .nil, .nil, .ff, .nil, .nil, .nil, .nil]), (3, .box [iV n, alv us, alv os, rlv lo, rlv hi', alv rows, tsv ts, bV c.neg, nat c.num, nat c.den, dlv path, .emp])]⟩))
    (.trans (.adoptB (ps := ⟨[(1, .ptr 1 0), (2, .ptr 2 0), (3, .ptr 3 0), (4, iV (((0 : Nat) : Int)))], [(1, .box [iV n, alv us, alv os, rlv lo, rlv hi', alv rows, tsv ts, bV c.neg, nat c.num, nat c.den, dlv path, .nil]), (2, .box [iV 0, .nil, .nil, .nil, .nil, .nil, .nil, .ff, .nil, .nil, .nil, .nil]), (3, .box [iV n, alv us, alv os, rlv lo, rlv hi', alv rows, tsv ts, bV c.neg, nat c.num, nat c.den, dlv path, .emp])]⟩) (cs := [iV n, alv us, alv os, rlv lo, rlv hi', alv rows, tsv ts, bV c.neg, nat c.num, nat c.den, dlv path, .emp]) 61 6 3 11 rfl rfl rfl)
    (.trans (.pub 61 rfl rfl) (.le okZ ?_ rfl)))) ?_
  · cbv
    exact ⟨okA, okA, okA, zH rfl, trivial⟩
  intro s hs
  obtain ⟨j, L⟩ := s
  obtain ⟨h1, h2, h3⟩ := hs
  dsimp only at h1 h2 h3
  clear hL9
  cbv
  refine zE (fun h => ?_) (fun h => ?_)
  · rw [zA] at h
    have hlt : j < us.length := by exact om
    obtain ⟨p, hp⟩ := zO hlt
    obtain ⟨p2, xv, yv, zv, xl, yl, xb, yb, F⟩ := hF' j p L hp h3
    have g2 := F.g (us.drop (j + 1))
    rw [hG, ← zU hp, h2] at g2
    have c1 := F.c1
    have c2 := F.c2
    have c3 := F.c3
    have c4 := F.c4
    have lk := F.lok
    have lkL : L.length ≤ 8 := by have := h3.len; omega
    clear F hF' hG h2 h3 hGn
    rw [hM1] at c2
    have hT : ((enc lc L).drop 0).take L.length = enc lc L := by rw [xM, ← zA lc L, wW]
    have hfr : 0 + L.length ≤ (enc lc L).length := by grind [zA]
    have hLn := lkL
    cbv
    refine yB hp qS j6 ?_
    cbv
    refine r8 61 rfl (by cbv; repeat' first | exact trivial | exact ⟨hfr⟩ | apply And.intro) ?_
    cbv
    refine yP rfl (by exact ⟨⟨lR, lR, lR, lR, lR, lR, lR, lR, lR, lR, lR, zS hT, trivial⟩, okA, trivial⟩) c1 rfl ?_
    cbv
    refine vD 12 [(10, 9)] (by cbv) (by cbv) (by cbv) ?_
    cbv
    refine r8 61 rfl (by cbv; repeat' first | exact trivial | exact ⟨hfr⟩ | apply And.intro) ?_
    cbv
    refine dA cof ?_
    cbv
    refine dA c2 ?_
    cbv
    refine wB (by exact ⟨⟨lR, lR, lR, lR, lR, lR, lR, lR, lR, lR, lR, zS hT, trivial⟩, okA, trivial⟩) c3 rfl ?_
    cbv
    refine lT (σ := List Lem) (fun Lx => ⟨[(1, .ptr 1 0), (2, .ptr 2 0), (3, .ptr 3 0), (4, iV j), (9, .ptr 9 0), (10, mlv yl), (11, bV yb)],
        [(1, .box [iV n, alv us, alv os, rlv lo, rlv hi', alv rows, tsv ts, bV c.neg, nat c.num, nat c.den, dlv path, .nil]), (2, .box [iV 0, .nil, .nil, .nil, .nil, .nil, .nil, .ff, .nil, .nil, .nil, .nil]), (3, .box [iV n, alv us, alv os, rlv lo, rlv hi', alv rows, tsv ts, bV c.neg, nat c.num, nat c.den, dlv path, oV 61 6 Lx.length]), (61, .log 6 (fun _ => enc lc Lx)), (9, .box [bV yv.neg, nat yv.num, nat yv.den])]⟩)
      (fun Lx => Lx = L ++ xJ xb j false xv xl) (fun e => ?_) (fun e => ?_) (fun Lx hLx => ?_)
    · cbv
      refine Fy ?_
      cbv
      refine Kf (.lend 61 4 rfl rfl trivial) ?_
      cbv
      refine p7 tE rfl rfl rfl (by grind) rfl ⟨by simp [zL, xE]⟩ (z5 oM (by simp [zL, zA]; exact om)) rfl ?_
      cbv
      refine ⟨L ++ [⟨j, false, xv, xl⟩], by unfold xJ; grind, .le okZ ?_ rfl⟩
      cbv
      refine ⟨okA, okA, ⟨lR, lR, lR, lR, lR, lR, lR, lR, lR, lR, lR, zZ rfl (by simp [zL, zA]), trivial⟩, zH ?_, okA, trivial⟩
      rw [kR]
      rfl
    · cbv
      refine ⟨L, by unfold xJ; grind, .le okZ ?_ rfl⟩
      cbv
      exact ⟨okA, okA, okA, zH rfl, okA, trivial⟩
    · have hxl : Lx.length ≤ 9 := by rw [hLx, bU]; have : (xJ xb j false xv xl).length ≤ 1 := by unfold xJ; grind
                                     omega
      have g3 : L ++ (xJ xb j false xv xl ++ xJ yb j true zv yl) = Lx ++ xJ yb j true zv yl := by grind
      rw [g3] at g2 lk
      clear g3 hLx c1 c2 c3 cof hT hfr
      cbv
      refine zP (fun e => ?_) (fun e => ?_)
      · have g3 : xJ yb j true zv yl = [⟨j, true, zv, yl⟩] := by unfold xJ; grind
        rw [g3] at g2 lk
        have c4' := c4 e
        clear c4 g3
        cbv
        refine zM 8 (by cbv) ?_
        cbv
        refine dA c4' ?_
        cbv
        refine p7 tE rfl rfl rfl (by simp [zA]) rfl ⟨by simp [zL, xE]⟩ (z5 oM (by simp [zL, zA]; exact om)) rfl ?_
        cbv
        refine ⟨zC om om, (j + 1, Lx ++ [⟨j, true, zv, yl⟩]), ⟨om, g2.symm, lk⟩, om, .trans (.pub 61 rfl rfl) (.le okZ ?_ rfl)⟩
        cbv
        refine ⟨okA, okA, ⟨lR, lR, lR, lR, lR, lR, lR, lR, lR, lR, lR, zZ rfl (by simp [zL, zA]), trivial⟩, zH ?_, trivial⟩
        rw [kR]
        rfl
      · have g3 : xJ yb j true zv yl = [] := by unfold xJ; grind
        rw [g3, kN] at g2 lk
        clear c4 g3
        cbv
        refine ⟨zC om om, (j + 1, Lx), ⟨om, g2.symm, lk⟩, om, .trans (.pub 61 rfl rfl) (.le okZ ?_ rfl)⟩
        cbv
        exact ⟨okA, okA, okA, zH rfl, trivial⟩
  · have hj : j = us.length := by rw [zA] at h; exact om
    rw [hj, wD, hGn] at h2
    subst h2
    have hT : ((enc lc L).drop 0).take L.length = enc lc L := by rw [xM, ← zA lc L, wW]
    have hfr : 0 + L.length ≤ (enc lc L).length := by grind [zA]
    clear hF' hG hGn h3
    cbv
    refine r8 61 rfl (by cbv; repeat' first | exact trivial | exact ⟨hfr⟩ | apply And.intro) ?_
    cbv
    (refine rC ?_; cbv)
    exact ⟨lR, lR, lR, lR, lR, lR, lR, lR, lR, lR, lR, zS hT, trivial⟩
end Go.Proofs.YtaeaffgjdcigoaaGreat
