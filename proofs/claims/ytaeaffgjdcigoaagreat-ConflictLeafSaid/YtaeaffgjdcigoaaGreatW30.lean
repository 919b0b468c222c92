/- A part of the proof: RuA, RuB, RuC, RuD, RuE, RuF, RuG, RuH, RuI. -/
import Derived.Test.YtaeaffgjdcigoaaGreatW29
import Derived.Test.YtaeaffgjdcigoaaGreatW26
import Derived.Test.YtaeaffgjdcigoaaGreatW27
import Derived.Test.YtaeaffgjdcigoaaGreatW25
import Derived.Test.YtaeaffgjdcigoaaGreatW28
set_option linter.all false
namespace Go.Proofs.YtaeaffgjdcigoaaGreat
open Go
set_option maxRecDepth 100000
set_option maxHeartbeats 4000000
def Ri {s:Scp}{r:Row}{f:F}(hc:s.q.can)(h:s.fIn r=some f):Cn f.ts:=by unfold Scp.fIn at h;split at h;{split at h;{obtain⟨x,_,rfl⟩:=pB.1 h;exact Xr (mH _) Cn.nil};{split at h;{obtain⟨x,_,rfl⟩:=pB.1 h;grind [Xr,Cn.nil,F.num,mH]};{split at h;{obtain⟨x,hx,rfl⟩:=pB.1 h;have:=(hc.rows x (z3 hx)).2;grind [add_zero]};{split at h;{split at h;{split at h;{split at h;{cases h;exact Xr (mH _) Cn.nil};{split at h;{cases h;exact pN (Xr (mH _) Cn.nil)};grind}};grind};grind};grind}}}};grind
def Bw {s:Scp}{r:Row}{f:F}(h:s.fm r=some f):Cn f.ts:=by unfold Scp.fm at h;split at h;{cases h};{rename_i hv;have hc:s.q.can:=Qry.can_of (by grind);split at h;{exact Ri hc h};{unfold Scp.fUn at h;split at h;{split at h;{rename_i p hp;exact DC (hc.us p (z3 hp)).2 (mH _) h};grind};grind}}
structure SumOk (s:Scp) (l:List Mult):Prop where
 fm:∀ m,m∈l->∀ f,s.fm m.row=some f->f.fl (2^24) 5000
 c:Msz (2^23) l
 pre:∀ i acc,sumL s F.zero (l.take i)=some acc->acc.fl (2^26) (2^30)
theorem VD {s:Scp}{m:Mult}{f:F}(hf:s.fm m.row=some f):∀ {l:List Mult} {acc acc':F},sumL s acc l=some acc'->sumL s acc (l++[m])=some (acc'.add (f.scale m.c.q))
 |[],acc,acc',h=>by cases h;show (match s.fm m.row with|none=>none|some f=>sumL s (acc.add (f.scale m.c.q)) [])=_;rw[hf];rfl
 |x::r,acc,acc',h=>by
  rw[Vv];unfold sumL at h ⊢;cases hx:s.fm x.row with
  |none=>grind| some g =>
   rw[hx] at h;exact VD hf h
def Xq {α:Type}{l:List α}{i:Nat}{a:α}(h:l[i]?=some a):l.take (i+1)=l.take i++[a]:=by rw[tC,h];rfl
def UT (s:Scp)(l:List Mult)(hs:s.sz (2^20))(hok:SumOk s l):zC 166 [sv s,mlv l] (.tup [fv (s.sum l).2,iV ((s.sum l).1)]):=by
 refine sF Tryz.f166 ?_;have hl:=hok.c;have cc:=Tf l (hl.mono (by decide));have cf:=λr=>D4 s r (hs.mono (by decide));have h0:qH none l=false->s.sum l=(1,F.zero):=λh=>if_pos h;have h1:qH none l=true->sumL s F.zero l=none->s.sum l=(12,F.zero):=λh g=>by unfold Scp.sum;grind
 have h2:∀ f,qH none l=true->sumL s F.zero l=some f->s.sum l=(0,f):=λf h g=>by unfold Scp.sum;grind
 obtain⟨W,hW⟩:∃ W,W=fA (s.sum l).2:=⟨_,rfl⟩;obtain⟨e,he⟩:∃ e,e=(s.sum l).1:=⟨_,rfl⟩;rw[show fv (s.sum l).2=av W by rw[hW],<-he];have g0:qH none l=false->W=⟨[],R0⟩/\e=1:=λh=>by grind [uU]
 have g1:qH none l=true->sumL s F.zero l=none->W=⟨[],R0⟩/\e=12:=λh g=>by grind [uU]
 have g2:∀ f,qH none l=true->sumL s F.zero l=some f->W=fA f/\e=0:=λf h g=>by grind
 clear h0 h1 h2 hW he;have hll:l.length<2^38:=hl.len;have hsn:∀ acc m r,sumL s acc (m::r)=match s.fm m.row with
  |none=>none| some f=>sumL s (acc.add (f.scale m.c.q)) r:=λ_ _ _=>rfl
 have hfl:∀ m,m∈l->∀ f,s.fm m.row=some f->f.fl (2^24) 5000/\Cn f.ts:=λm hm f h=>⟨hok.fm m hm f h,Bw h⟩;have hpre:=hok.pre;have hsn':∀ i m f acc,l[i]?=some m->s.fm m.row=some f->sumL s F.zero (l.take i)=some acc->sumL s F.zero (l.take (i+1))=some (acc.add (f.scale m.c.q)):=λi m f acc h1 h2 h3=>by rw[Xq h1];grind [VD]
 obtain⟨PR,hPR⟩:∃ PR:Nat->F->Prop,∀ i acc,PR i acc=(sumL s F.zero (l.take i)=some acc):=⟨_,λ_ _=>rfl⟩;have hPR0:PR 0 F.zero:=by rw[hPR];rfl
 simp only[<-hPR] at hpre hsn';have hms:=hl.sz;obtain⟨T,hT⟩:∃ T:F->List Mult->Option F,sumL s=T:=⟨_,rfl⟩;have hTn:∀ acc,T acc []=some acc:=λacc=>by rw[<-hT];rfl
 rw[hT] at hsn g1 g2;generalize qH none l=cn at *;clear hT hs hl hok hPR;cbv;refine cA cc ?_;cbv;refine zO (λe1=>?_) (λe1=>?_)
 rotate_left
 {cbv;obtain⟨q1,q2⟩:=g0 e1;subst q1 q2;exact rA};have g1':=g1 e1;have g2':=λf=>g2 f e1;clear g0 g1 g2 cc;cbv;refine z7 (σ:=Nat×F) (λst=>⟨[(1,mlv l),(2,.ptr 2 0),(4,.ptr 4 0),(6,.ptr 6 0),(7,iV st.1)],[(2,.box (sc s)),(4,.box [.nil,.ff,.nil,.nil]),(6,.box [tsv (fA st.2).ts,zL ((fA st.2).c.neg),nat (fA st.2).c.num,nat (fA st.2).c.den])]⟩)
  (λst=>st.1<=l.length/\T F.zero l=T st.2 (l.drop st.1)/\PR st.1 st.2/\Cn st.2.ts) (λst=>l.length-st.1)
  (0,F.zero) ⟨om,rfl,hPR0,Cn.nil⟩ (.le okZ ?_ rfl) ?_
 {show leO _ [(2,.box (sc s)),(4,.box [.nil,.ff,.nil,.nil]),(6,.box [tsv (fA F.zero).ts,zL ((fA F.zero).c.neg),nat (fA F.zero).c.num,nat (fA F.zero).c.den])];rw[uU];cbv;exact okA};intro st hst;obtain⟨h1,hv,ha,hcn⟩:=hst;generalize st.1=i at *;generalize st.2=acc at *;obtain⟨V,hV⟩:=ex (fA acc);simp only[hV];cbv;refine zF (λh5=>?_) (λh5=>?_)
 ·have hlt:=jS h5;obtain⟨m,hm⟩:=zS hlt;have hmem:=z3 hm;rw[zY hm,hsn] at hv;have cfm:=cf m.row;have hmc:=hms m hmem;have hxf:∀ f,s.fm m.row=some f->f.fl (2^24) 5000/\Cn f.ts:=λf h=>hfl m hmem f h;have hnx:∀ f,s.fm m.row=some f->PR (i+1) (acc.add (f.scale m.c.q)):=λf h=>hsn' i m f acc hm h ha;have hap:=hpre i acc ha;generalize hx:s.fm m.row=o at *;clear cf;cases o with
  |none =>
   (have hv':T F.zero l=none:=hv;obtain⟨q1,q2⟩:=g1' hv';have cfm':zC 200 [sv s,rwv m.row] (.tup [av ⟨[],R0⟩,zL false]):=by have h:zC 200 [sv s,rwv m.row] (.tup [av (fA F.zero),zL false]):=cfm;rw[uU] at h;exact h);clear cfm hv hv' g1' g2';subst q1 q2;cbv;refine vP 12 [(11,8)] (by cbv) (by cbv) (by cbv) ?_;cbv;refine yL hm vA xS ?_;cbv;refine dA cfm' ?_;cbv;refine zO (λe=>absurd e (by decide)) (λ_=>?_);cbv;exact rA
  |some f =>
   have hv':T F.zero l=T (acc.add (f.scale m.c.q)) (l.drop (i+1)):=hv;obtain⟨hf,hfc⟩:=hxf f rfl;have b1:=hf.scale (hmc.fits (by decide));have cs:=XE (fA f) m.c ((hf.fit (by decide)).fA.mono (by decide)) (hmc.mono (by decide));rw[qG] at cs;have ca:=Gq hcn (pN (q:=m.c.q) hfc) hap b1 (by decide) (by decide) (by decide) (by decide);have hacc:=hnx f rfl;have hcn':Cn (acc.add (f.scale m.c.q)).ts:=hcn.mrg (pN hfc);have cfm':zC 200 [sv s,rwv m.row] (.tup [av (fA f),zL true]):=cfm;clear cfm hv hxf b1 ha hap hnx hcn hfc;dsimp only [fv] at cs ca;rw[hV] at ca;generalize hA':acc.add (f.scale m.c.q)=acc' at *;obtain⟨V',hV'⟩:=ex (fA acc');rw[hV'] at ca;generalize fA (f.scale m.c.q)=X at *;generalize fA f=Y at *;cbv;refine vP 12 [(11,8)] (by cbv) (by cbv) (by cbv) ?_;cbv;refine yL hm vA xS ?_;cbv;refine dA cfm' ?_;cbv;refine zO (λ_=>?_) (λe=>absurd e (by decide));cbv;refine zM 9 (by cbv) ?_;cbv;refine yL hm vA xS ?_;cbv;refine dA cs ?_;cbv;refine dA ca ?_;cbv;refine⟨zD om om,(i+1,acc'),⟨om,hv',hacc,hcn'⟩,om,.le okZ ?_ rfl⟩;show leO _ [(2,.box (sc s)),(4,.box [.nil,.ff,.nil,.nil]),(6,.box [tsv (fA acc').ts,zL ((fA acc').c.neg),nat (fA acc').c.num,nat (fA acc').c.den])];rw[hV'];cbv;exact okA
 {have hi:i=l.length:=dZ h5 h1;rw[hi,vE,hTn] at hv;obtain⟨q1,q2⟩:=g2' acc hv;rw[hV] at q1;clear g1' g2' hv;subst q1 q2;cbv;exact rA}
def H9 {s:Scp}:∀ {l:List Mult} {acc f:F},Cn acc.ts->sumL s acc l=some f->Cn f.ts
 |[],acc,f,h,e=>by cases e;exact h
 |m::r,acc,f,h,e=>by
  unfold sumL at e;cases hx:s.fm m.row with
  |none=>grind| some g =>
   rw[hx] at e;exact H9 (h.mrg (pN (Bw hx))) e
theorem Scp.sum_can (s:Scp)(l:List Mult):Cn (s.sum l).2.ts:=by unfold Scp.sum;split;{exact Cn.nil};{split;{exact Cn.nil};{rename_i h;exact H9 (acc:=F.zero) Cn.nil h}}
theorem Scp.sum_fl' {s:Scp}{l:List Mult}(h:SumOk s l):(s.sum l).2.fl (2^26) (2^30):=by unfold Scp.sum;split;{exact zero_fl.mono (by decide) (by decide)};{split;{exact zero_fl.mono (by decide) (by decide)};{rename_i f hf;exact h.pre l.length f (by grind)}}
def Scp.provesR (s:Scp) (f:A) (l:List Mult):Bool:=decide ((s.sum l).1=0)&&(f.valid 4611686018427387904&&(decide ((f.f.sub (s.sum l).2).ts.length=0)&&decide (0<=yA (f.f.sub (s.sum l).2).c)))
def Gk (s:Scp)(f:A)(l:List Mult)(hs:s.sz (2^20))(hf:f.sz (2^22))(hft:f.ts.length<=2^34)(hok:SumOk s l):zC 108 [sv s,av f,mlv l] (zL (s.provesR f l)):=by
 refine sF Tryz.f108 ?_;have cs:=UT s l hs hok;have cv:=FE f 4611686018427387904 (hf.mono (by decide));have fl:=Scp.sum_fl' hok;have fc:=Scp.sum_can s l;have hff:f.f.fl (2^22) (2^34):=hf.fl (by decide) hft;have fr:Fits (2^34) (f.f.sub (s.sum l).2).c:=((hff.sub fl).mono (by decide) (yD _)).c;have cb:f.valid 4611686018427387904=true->zC 164 [av f,av (fA (s.sum l).2)] (av (fA (f.f.sub (s.sum l).2))):=λh=>by obtain⟨h1,h2⟩:=cZ h;have:=Ym h2 fc hff fl (by decide) (by decide) (by decide) (by decide);dsimp only [fv] at this;simp_all
 have cg:=s35 (zI (f.f.sub (s.sum l).2).c) (xP (zU fr).n (by decide));rw[z6] at cg;have hr:s.provesR f l=(decide ((s.sum l).1=0)&&(f.valid 4611686018427387904&&(decide ((tR (f.f.sub (s.sum l).2).ts).length=0)&&decide (0<=yA (f.f.sub (s.sum l).2).c)))):=by rw[vD];rfl
 rw[hr];dsimp only [fv] at cs;have e1:fA (f.f.sub (s.sum l).2)=⟨tR (f.f.sub (s.sum l).2).ts,zI (f.f.sub (s.sum l).2).c⟩:=rfl;rw[e1] at cb;clear hr e1 fl fr hff hf hs hok fc;generalize yA (f.f.sub (s.sum l).2).c=sg at *;generalize zI (f.f.sub (s.sum l).2).c=C at *;generalize tR (f.f.sub (s.sum l).2).ts=T at *;generalize fA (s.sum l).2=V at *;generalize (s.sum l).1=e at *;generalize f.valid 4611686018427387904=vd at *;cbv;refine cA cs ?_;cbv;refine zQ (λh=>?_) (λh=>?_)
 ·cbv;refine cA cv ?_;cbv;refine zO (λh2=>?_) (λh2=>?_)
  ·have cb':=cb h2;cbv;refine cA cb' ?_;cbv;refine zQ (λh3=>?_) (λh3=>?_)
   ·cbv;refine cA cg ?_;cbv
    (refine rC ?_;cbv)
    refine zX ?_;rw[decide_eq_true h,h2,decide_eq_true (p:=T.length=0) (by rw[zA] at h3;exact om)];simp
   ·cbv
    (refine rC ?_;cbv)
    refine zK ?_;rw[decide_eq_false (p:=T.length=0) (by rw[zA] at h3;exact om)];simp
  ·cbv
   (refine rC ?_;cbv)
   exact zK (by grind)
 ·cbv
  (refine rC ?_;cbv)
  exact zK (by grind)
def Sm (s:Scp)(l:List Mult)(hs:s.sz (2^20))(hok:SumOk s l):zC 107 [sv s,mlv l] (zL (s.refutes l)):=by
 refine sF Tryz.f107 ?_;have cs:=UT s l hs hok;have fl:=Scp.sum_fl' hok;have cg:=s35 (zI (s.sum l).2.c) (xP (zU fl.c).n (by decide));rw[z6] at cg;have hr:s.refutes l=(decide ((s.sum l).1=0)&&(decide ((tR (s.sum l).2.ts).length=0)&&decide (yA (s.sum l).2.c<0))):=by rw[vD];rfl
 rw[hr];dsimp only [fv] at cs;have e1:fA (s.sum l).2=⟨tR (s.sum l).2.ts,zI (s.sum l).2.c⟩:=rfl;rw[e1] at cs;clear hr e1 fl hs hok;generalize yA (s.sum l).2.c=sg at *;generalize zI (s.sum l).2.c=C at *;generalize tR (s.sum l).2.ts=T at *;generalize (s.sum l).1=e at *;cbv;refine cA cs ?_;cbv;refine zQ (λh=>?_) (λh=>?_)
 ·cbv;refine zQ (λh3=>?_) (λh3=>?_)
  ·cbv;refine cA cg ?_;cbv
   (refine rC ?_;cbv)
   refine zX ?_;rw[decide_eq_true h,decide_eq_true (p:=T.length=0) (by rw[zA] at h3;exact om)];simp
  ·cbv
   (refine rC ?_;cbv)
   refine zK ?_;rw[decide_eq_false (p:=T.length=0) (by rw[zA] at h3;exact om)];simp
 ·cbv
  (refine rC ?_;cbv)
  exact zK (by grind)
def RO {vars:Int}:∀ {ts:List (Int×R)} {p:Int},vT vars p ts=true->∀ t,t∈tq ts->0<=t.1/\t.1<vars
 |[],p,_,t,ht=>absurd ht (by simp[tq])| x::r,p,h,t,ht=>by unfold vT at h;simp only[yP,decide_eq_true_eq] at h;rcases yG.1 (show t∈(x.1,x.2.q)::tq r from ht) with rfl|ht;{omega};{exact RO h.2 t ht}
theorem A.valid_wf {a:A}{vars:Int}(h:a.valid vars=true):a.f.wf vars:=⟨(cZ h).2,λt ht=>by unfold A.valid at h;rw[yP] at h;exact RO h.1 t ht⟩
def MQ {q:Qry}(h:q.valid=true){p:A}(hp:p∈q.g.us):p.f.wf 2000:=by have hv:=Qry.vok_of h;unfold Qry.valid Grp.valid Reg.valid at h;simp only[yP,decide_eq_true_eq,pA] at h;obtain⟨⟨⟨⟨h1,h2⟩,h3⟩,⟨h4,h5⟩,h6⟩,h7⟩:=h;obtain⟨j,hj,hh⟩:=UC h2 hp;exact (A.valid_wf hh).mono oM
def Rg {m:Lem}{p:F}{n:Int}(hp:p.wf n):(m.form p).wf n:=by unfold Lem.form;split;{exact (F.wf.merge hp (F.wf.num _ _)).scale};{exact F.wf.merge hp (F.wf.num _ _)}
def Hl {s:Scp}{g:F}{l:List Mult}(h:g.wf 2000):s.provesR (fA g) l=s.proves (fA g) l:=by unfold Scp.provesR Scp.proves;rw[(h.mono (by decide)).valid,(h.mono (by decide)).valid]
def Sn (s:Scp)(m:Lem)(hs:s.sz (2^20))(hm:m.v.sz (2^20))(hok:SumOk s m.pf):zC 106 [sv s,lv' m] (zL (s.lemB m)):=by
 refine sF Tryz.f106 ?_;have cvd:=FI m.v (hm.mono (by decide));have crv:=iA s.q (hs.q.mono (by decide));have hno:¬(0<=m.u/\m.u<s.q.g.us.length)->s.lemB m=false:=λh=>by grind [Scp.lemB]
 have hno2:m.v.ok=false->s.lemB m=false:=λh=>by grind [Scp.lemB]
 have hno3:s.q.valid=false->s.lemB m=false:=λh=>by grind [Scp.lemB]
 have hyes:∀ p,0<=m.u->m.u<s.q.g.us.length->m.v.ok=true->s.q.valid=true->s.q.g.us[m.u.toNat]?=some p->s.lemB m=s.proves (fA (m.form p.f)) m.pf:=λp h1 h2 h3 h4 h5=>by grind [Scp.lemB]
 have hfp:∀ p,s.q.valid=true->p∈s.q.g.us->p.f.fl (2^20) 2000:=λp h hp=>(hs.q.g.us.sz p hp).fl (by decide) ((Qry.vok_of h).up p hp);have hcs:∀ p,s.q.valid=true->m.v.ok=true->p∈s.q.g.us->zC 164 [av p,av ⟨[],m.v⟩] (av (fA (p.f.sub (F.num m.v.q)))):=λp h h' hp=>by obtain⟨h1,h2⟩:=(Qry.can_of h).us p hp;have:=Ym h2 (Cn.nil:Cn (F.num m.v.q).ts) (hfp p h hp) (u6 (hm.fits (by decide))) (by decide) (by decide) (by decide) (by decide);dsimp only [fv] at this;rw[h1,show fA (F.num m.v.q)=⟨[],zI m.v.q⟩ from rfl,GE h'] at this;omega
 have hcm:∀ p,s.q.valid=true->p∈s.q.g.us->zC 100 [av (fA (p.f.sub (F.num m.v.q))),rv (zI ((-1:Int):Rat))] (av (fA ((p.f.sub (F.num m.v.q)).scale (-1)))):=λp h hp =>
  fQ ((hfp p h hp).sub (u6 (hm.fits (by decide)))) wK (by decide) (by decide) (m:=1) (by decide)
 have hcp:∀ p,s.q.valid=true->p∈s.q.g.us->zC 108 [sv s,av (fA (m.form p.f)),mlv m.pf] (zL (s.proves (fA (m.form p.f)) m.pf)):=λp h hp=>by have ff:=Rh (m:=m) (hfp p h hp) (hm.fits (by decide));have:=Gk s (fA (m.form p.f)) m.pf hs ((Ui ff (by decide)).mono (by decide)) (by rw[show (fA (m.form p.f)).ts=tR (m.form p.f).ts from rfl,vD];have:=ff.len;omega) hok;rw[Hl (Rg (MQ h hp))] at this;omega
 have c1:=s32 (-1) (by decide) (by decide);have cnm:=iO m.v;have hul:=hs.q.g.us.len;generalize hres:s.lemB m=res at *;generalize m.v.ok=ok at *;generalize hvd:s.q.valid=vd at *;clear hres hs hm hok hfp;cbv;refine cA crv ?_;cbv;refine yB (λe4=>?_) (λe4=>?_)
 rotate_left
 ·cbv
  (refine rC ?_;cbv)
  exact zK (hno3 e4)
 cbv;refine zQ (λe1=>?_) (λe1=>?_)
 ·cbv
  (refine rC ?_;cbv)
  exact zK (hno om)
 cbv;refine zQ (λe2=>?_) (λe2=>?_)
 ·cbv
  (refine rC ?_;cbv)
  exact zK (hno (by rw[zA] at e2;exact om))
 rw[zA] at e2;cbv;refine cA cvd ?_;cbv;refine zO (λe3=>?_) (λe3=>?_)
 rotate_left
 ·cbv
  (refine rC ?_;cbv)
  exact zK (hno2 e3)
 obtain⟨p,hp⟩:∃ p,s.q.g.us[m.u.toNat]?=some p:=zS (by exact om);have hmem:=z3 hp;have hr:=hyes p (by exact om) (by exact om) e3 e4 hp;have cs:=hcs p e4 e3 hmem;have cm:=hcm p e4 hmem;have cp:=hcp p e4 hmem;have hu:m.u=((m.u.toNat:Nat):Int):=by exact om
 have hform:m.form p.f=if m.up=true then (p.f.sub (F.num m.v.q)).scale (-1) else p.f.sub (F.num m.v.q):=rfl
 have idx:∀ {K:List PV->Prop},K (ac p)->IdxOk 4 (λ_=>enc ac s.q.g.us) (λ_=>m.u) K:=λhK=>x5 hp hu j7 cJ hK;rw[hr];clear hr hcs hcm hcp hyes hno hno2 hno3 cvd crv;obtain⟨G,hG⟩:=ex (fA (p.f.sub (F.num m.v.q)));obtain⟨G2,hG2⟩:=ex (fA ((p.f.sub (F.num m.v.q)).scale (-1)));obtain⟨M1,hM1⟩:=ex (zI ((-1:Int):Rat));rw[hG] at cs cm;rw[hG2,hM1] at cm;rw[hM1] at c1;generalize s.proves (fA (m.form p.f)) m.pf=res' at *;cbv;refine qV 13 (by cbv) (by cbv) ?_;cbv;refine idx ?_;cbv;refine dA cnm ?_;cbv;refine dA cs ?_;cbv;refine zO (λe5=>?_) (λe5=>?_);{rw[hform,if_pos e5,hG2] at cp;cbv;refine zM 3 (by cbv) ?_;cbv;refine dA c1 ?_;cbv;refine dA cm ?_;cbv;refine cA cp ?_;cbv;exact rA};{rw[hform,if_neg (by grind),hG] at cp;cbv;refine cA cp ?_;cbv;exact rA}
def DZ (s:Scp)(hs:s.sz (2^20))(hok:∀ (i:Nat) (m:Lem),s.lems[i]?=some m->SumOk (s.pre i) m.pf):zC 41 [sv s] (zL s.scopeB):=by
 refine sF Tryz.f41 ?_;have crv:=iA s.q (hs.q.mono (by decide));have cF:=λ(d:Dec) (hd:d∈s.path)=>Gp s.q d (hs.q.mono (by decide)) ((hs.path.sz d hd).mono (by decide));have hcl:∀ i m,s.lems[i]?=some m->zC 106 [sv ⟨s.q,s.path,s.lems.take i⟩,lv' m] (zL ((s.pre i).lemB m)):=λi m hm =>
  Sn (s.pre i) m (Scp.pre_sz hs i) (hs.lems.sz m (z3 hm)) (hok i m hm)
 have hr:s.scopeB=(s.q.valid&&((s.path.all λd=>s.q.valid&&d.fits s.q)&&uP s 0 s.lems)):=rfl;have hll:=hs.lems.len;have hpl:=hs.path.len;have hcons:∀ i m r,uP s i (m::r)=((s.pre i).lemB m&&uP s (i+1) r):=λ_ _ _=>rfl;obtain⟨LF,hLF⟩:=ex (uP s);have hnil:∀ i,LF i []=true:=λi=>by rw[<-hLF];rfl
 obtain⟨P,hP⟩:∃ P:Dec->Bool,∀ d,P d=(s.q.valid&&d.fits s.q):=⟨_,λ_=>rfl⟩;rw[hLF] at hr hcons;simp only[<-hP] at hr cF;obtain⟨LB',hLB⟩:∃ LB:Nat->Lem->Bool,∀ i m,LB i m=(s.pre i).lemB m:=⟨_,λ_ _=>rfl⟩;simp only[<-hLB] at hcons hcl;generalize s.scopeB=res at *;generalize s.q.valid=vd at *;clear hs hok hLF hP hLB;cbv;refine cA crv ?_;cbv;refine zO (λe1=>?_) (λe1=>?_)
 rotate_left
 ·cbv
  (refine rC ?_;cbv)
  exact zK (by grind)
 rw[e1,yW] at hr;cbv;refine z7 (σ:=Nat) (λi=>⟨[(1,.ptr 1 0),(3,iV i)],[(1,.box (sc s))]⟩)
  (λi=>i<=s.path.length/\res=((s.path.drop i).all P&&LF 0 s.lems)) (λi=>s.path.length-i) 0 ⟨by omega,hr⟩ (wkZ) ?_
 clear hr crv;intro i hi;obtain⟨h1,h2⟩:=hi;cbv;refine zF (λh5=>?_) (λh5=>?_)
 ·have hlt:=jS h5;obtain⟨d,hd⟩:=zS hlt;have cf:=cF d (z3 hd);rw[zY hd,List.all_cons] at h2;generalize P d=pd at *;clear hcl hcons;cbv;refine zM 9 (by cbv) ?_;cbv;refine yL hd uF qP ?_;cbv;refine dA cf ?_;cbv;refine zO (λe2=>?_) (λe2=>?_);{rw[e2,yW] at h2;cbv;exact⟨zD om om,i+1,⟨om,h2⟩,om,wkZ⟩}
  ·cbv
   (refine rC ?_;cbv)
   exact zK (by grind)
 have hi':=dZ h5 h1;rw[hi',vE,List.all_nil,yW] at h2;clear cF h5 h1 hi';cbv;refine z7 (σ:=Nat) (λi=>⟨[(1,.ptr 1 0),(4,iV i)],[(1,.box (sc s))]⟩)
  (λi=>i<=s.lems.length/\res=LF i (s.lems.drop i)) (λi=>s.lems.length-i) 0 ⟨by omega,h2⟩ (wkZ) ?_
 clear h2;intro i hi;obtain⟨h1,h2⟩:=hi;cbv;refine zF (λh5=>?_) (λh5=>?_)
 ·have hlt:=jS h5;obtain⟨m,hm⟩:=zS hlt;rw[zY hm,hcons] at h2;have cl:=hcl i m hm;generalize LB' i m=b at *;clear hcl hcons;cbv;refine qV 10 (by cbv) (by cbv) ?_;cbv;refine⟨vF om om (by rw[zA];exact om),xE y7 _,?_⟩;cbv;refine zM 8 (by cbv) ?_;cbv;refine yL hm xB y7 ?_;cbv;refine xW (by exact⟨⟨lR,lR,lR,lR,lR,lR,lR,lR,lR,lR,lR,zR (by simp[enc,Zu]),trivial⟩,okA,trivial⟩) cl rfl ?_;cbv;refine zO (λe3=>?_) (λe3=>?_);{rw[e3,yW] at h2;cbv;exact⟨zD om om,i+1,⟨om,h2⟩,om,wkZ⟩}
  ·cbv
   (refine rC ?_;cbv)
   exact zK (by grind)
 ·have hi':=dZ h5 h1;rw[hi',vE,hnil] at h2;cbv
  (refine rC ?_;cbv)
  exact yV h2
def bB (s:Scp)(unit:Int)(hs:Lsz (2^20) s.lems):zC 78 [sv s,iV unit] (.tup [iV (((s.best unit).1:Int)),iV (((s.best unit).2:Int))]):=by
 refine sF Tryz.f78 ?_;have hll:=hs.len;obtain⟨⟨⟨gn,us,os⟩,⟨lo,hi,rows⟩,⟨ts,c1,c2,c3⟩⟩,path,L⟩:=s;dsimp only at hs hll;have cc:∀ m m',m∈L->m'∈L->zC 48 [rv m.v,rv m'.v] (iV (uV m.v.q m'.v.q)):=λm m' h h'=>s42 m.v m'.v ((hs.sz m h).mono (by decide)) ((hs.sz m' h').mono (by decide));have hst:∀ n m r b,aD L unit n (m::r) b=aD L unit (n+1) r (if m.u=unit then (if m.up=true then (if b.2=0\/uV m.v.q (qW L b.2)<0 then (b.1,n+1) else b) else (if b.1=0\/0<uV m.v.q (qW L b.1) then (n+1,b.2) else b)) else b):=λ_ _ _ _=>rfl;have hva:∀ k m,L[k-1]?=some m->qW L k=m.v.q:=λk m h=>by grind [qW]
 have hni:∀ n b,aD L unit n [] b=b:=λ_ _=>rfl;have hgoal:((⟨⟨⟨gn,us,os⟩,⟨lo,hi,rows⟩,⟨ts,c1,c2,c3⟩⟩,path,L⟩:Scp).best unit)=aD L unit 0 L (0,0):=rfl;rw[hgoal];obtain⟨B,hB⟩:=ex (aD L unit 0 L (0,0));rw[hB];obtain⟨B1,B2⟩:=B;dsimp only;generalize aD L unit=BG at *;clear hgoal;cbv;refine z7 (σ:=Nat×Nat×Nat) (λst=>⟨[(1,iV unit),(2,.ptr 2 0),(6,iV st.2.1),(7,iV st.2.2),(8,iV (((st.1+1:Nat):Int)))],[(2,.box [iV gn,alv us,alv os,rlv lo,rlv hi,alv rows,tsv ts,zL c1,nat c2,nat c3,dlv path,llv L])]⟩)
  (λst=>st.1<=L.length/\BG st.1 (L.drop st.1) st.2=(B1,B2)/\st.2.1<=L.length/\st.2.2<=L.length) (λst=>L.length-st.1)
  (0,0,0) ⟨by omega,hB,xA _,xA _⟩ (wkZ) ?_
 intro st hst';obtain⟨i,b1,b2⟩:=st;obtain⟨h1,h2,h3,h4⟩:=hst';dsimp only at h1 h2 h3 h4;clear hB;cbv;refine zF (λh5=>?_) (λh5=>?_)
 ·(rw[zA] at h5;have hlt:i<L.length:=by exact om);obtain⟨m,hm⟩:=zS hlt
  (have hmem:=z3 hm;rw[zY hm,hst] at h2;have idx:∀ {K:List PV->Prop},K (lc m)->IdxOk 6 (λ_=>enc lc L) (λ_=>((i+1:Nat):Int)-1) K:=λhK=>x5 hm oM xB y7 hK;have hin:∀ k:Nat,k<=L.length->¬k=0->∃ m',m'∈L/\qW L k=m'.v.q/\∀ {K:List PV->Prop},K (lc m')->IdxOk 6 (λ_=>enc lc L) (λ_=>(k:Int)-1) K:=λk hk h0=>by obtain⟨m',hm'⟩:=zS (l:=L) (i:=k-1) oM;exact⟨m',z3 hm',hva k m' hm',λhK=>x5 hm' oM xB y7 hK⟩);clear hst hva;cbv;refine⟨zD om om,idx ?_⟩;cbv;refine zF (λe1=>?_) (λe1=>?_)
  ·rw[if_pos e1] at h2;cbv;refine zM 19 (by cbv) ?_;cbv;refine yB (λe2=>?_) (λe2=>?_)
   ·rw[if_pos e2] at h2;cbv;refine zQ (λe3=>?_) (λe3=>?_)
    ·(have e3':b2=0:=by exact om);rw[if_pos (.inl e3')] at h2
     cbv;refine zM 20 (by cbv) ?_;cbv;refine yB (λe4=>?_) (λe4=>by rw[e2] at e4;cases e4);cbv;exact⟨zD om om,(i+1,b1,(i+1)),⟨om,h2,oM,(by grind)⟩,om,wkZ⟩
    (have e3':¬b2=0:=by exact om);obtain⟨m',hm',hv',idx'⟩:=hin b2 h4 e3'
    have cx:=cc m m' hmem hm';rw[hv'] at h2;generalize uV m.v.q m'.v.q=x at *;cbv;refine⟨zD om om,idx' ?_⟩;cbv;refine dA cx ?_;cbv;refine zF (λe5=>?_) (λe5=>?_);{rw[if_pos (.inr e5)] at h2;cbv;refine zM 20 (by cbv) ?_;cbv;refine yB (λe4=>?_) (λe4=>by rw[e2] at e4;cases e4);cbv;exact⟨zD om om,(i+1,b1,(i+1)),⟨om,h2,oM,(by grind)⟩,om,wkZ⟩};{rw[if_neg (λh=>h.elim e3' e5)] at h2;cbv;refine zM 20 (by cbv) ?_;cbv;refine yB (λe4=>?_) (λe4=>by rw[e2] at e4;cases e4);cbv;exact⟨zD om om,(i+1,b1,b2),⟨om,h2,oM,oM⟩,om,wkZ⟩}
   ·rw[if_neg (by grind)] at h2;cbv;refine zM 20 (by cbv) ?_;cbv;refine yB (λe4=>by rw[e2] at e4;cases e4) (λe4=>?_);cbv;refine zQ (λe3=>?_) (λe3=>?_)
    ·(have e3':b1=0:=by exact om);rw[if_pos (.inl e3')] at h2
     cbv;exact⟨zD om om,(i+1,(i+1),b2),⟨om,h2,(by grind),oM⟩,om,wkZ⟩
    (have e3':¬b1=0:=by exact om);obtain⟨m',hm',hv',idx'⟩:=hin b1 h3 e3'
    have cx:=cc m m' hmem hm';rw[hv'] at h2;generalize uV m.v.q m'.v.q=x at *;cbv;refine⟨zD om om,idx' ?_⟩;cbv;refine dA cx ?_;cbv;refine zF (λe5=>?_) (λe5=>?_);{rw[if_pos (.inr e5)] at h2;cbv;exact⟨zD om om,(i+1,(i+1),b2),⟨om,h2,(by grind),oM⟩,om,wkZ⟩};{rw[if_neg (λh=>h.elim e3' e5)] at h2;cbv;exact⟨zD om om,(i+1,b1,b2),⟨om,h2,oM,oM⟩,om,wkZ⟩}
  {rw[if_neg e1] at h2;cbv;exact⟨zD om om,(i+1,b1,b2),⟨om,h2,oM,oM⟩,om,wkZ⟩}
 ·(have hi:i=L.length:=by rw[zA] at h5;exact om);rw[hi,vE,hni] at h2
  obtain⟨q1,q2⟩:=Ye h2;subst q1 q2;cbv;exact rA
def Gl (a b:List (Row×Rat))(c:R)(ha:∀ t,t∈a->Fits (2^28) t.2)(hal:a.length<=2^36)(hb:∀ t,t∈b->Fits (2^23) t.2)(hbl:b.length<=32)(hc:c.sz (2^20)):zC 115 [mlv (mR a),mlv (mR b),rv c] (mlv (mR (xR a b c.q))):=by
 refine sF Tryz.f115 ?_;have hcf:Fits (2^20) c.q:=hc.fits (by decide);have c1:∀ q,Fits (2^23) q->zC 84 [rv (zI q),rv c] (rv (zI (q*c.q))):=λq hq=>by have:=s77 (zI q) c ((zU hq).mono (by decide)) (hc.mono (by decide));rw[z6] at this;omega
 have c2:∀ (l:List (Row×Rat)) (r:Row) (q:Rat),Mfit (2^30) l->Fits (2^24) q->zC 112 [mlv (mR l),rwv r,rv (zI q)] (mlv (mR (plMq l r q))):=λl r q hl hq=>by have:=Tk l r (zI q) hl ((zU hq).mono (by decide));grind [z6]
 obtain⟨A0,hA0⟩:∃ n:Nat,n=2^28:=⟨_,rfl⟩;obtain⟨L0,hL0⟩:∃ n:Nat,n=2^36:=⟨_,rfl⟩;obtain⟨D0,hD0⟩:∃ n:Nat,n=2^24+1:=⟨_,rfl⟩;rw[<-hA0] at ha;rw[<-hL0] at hal;have hAD:∀ i:Nat,i<=32->A0+i*D0<=2^30:=λi hi=>by grind
 obtain⟨G,hG⟩:∃ G:List (Row×Rat)->List (Row×Rat)->List (Row×Rat),∀ x y,G x y=xR x y c.q:=⟨_,λ_ _=>rfl⟩;have hn:∀ x,G x []=x:=λx=>by rw[hG];rfl
 have hs:∀ x t r,G x (t::r)=G (plMq x t.1 (t.2*c.q)) r:=λx t r=>by rw[hG,hG];rfl
 rw[<-hG];obtain⟨res,hres⟩:=ex (G a b);rw[hres];clear hG;have hbm:∀ (i:Nat) t,b[i]?=some t->(mR b)[i]?=some ⟨t.1,zI t.2⟩:=λi t h=>by simp[mR,dH,h]
 have hbl':(mR b).length=b.length:=jN b;cbv;refine z7 (σ:=Nat×List (Row×Rat)) (λs=>⟨[(0,mlv (mR s.2)),(1,mlv (mR b)),(5,.ptr 5 0),(7,iV s.1)],[(5,.box [zL c.neg,nat c.num,nat c.den])]⟩)
  (λs=>s.1<=b.length/\G s.2 (b.drop s.1)=res/\(∀ t,t∈s.2->Fits (A0+s.1*D0) t.2)/\s.2.length<=L0+s.1) (λs=>b.length-s.1)
  (0,a) ⟨xA _,hres,by grind,by omega⟩ (wkZ) ?_
 intro st hst;obtain⟨i,acc⟩:=st;obtain⟨h1,h2,h3,h4⟩:=hst;dsimp only at h1 h2 h3 h4;clear hres;cbv;refine zF (λh5=>?_) (λh5=>?_)
 ·(rw[zA,hbl'] at h5;have hlt:i<b.length:=by exact om);obtain⟨t,ht⟩:=zS hlt
  have hm:=hbm i t ht;have hq:=hb t (z3 ht);rw[zY ht,hs] at h2;obtain⟨r,q⟩:=t;dsimp only at h2 hm hq;have d1:=c1 q hq;have d2:=c2 acc r (q*c.q) ⟨by omega,λt ht=>(h3 t ht).mono (hAD i oM)⟩ ((y8 hq hcf).mono (by decide));have h3':=oT (r:=r) ((y8 hq hcf).mono (show _<=2^24 by decide)) h3;have h4':=XM acc r (q*c.q);generalize plMq acc r (q*c.q)=acc' at *;generalize zI (q*c.q)=Y at *;generalize zI q=X at *;clear c1 c2 hs hn;cbv;refine zM 14 (by cbv) ?_;cbv;refine yL hm vA xS ?_;cbv;refine yL hm vA xS ?_;cbv;refine dA d1 ?_;cbv;refine dA d2 ?_;cbv;exact⟨zD om om,(i+1,acc'),⟨om,h2,λt ht=>(h3' t ht).mono (by grind),(by grind)⟩,om,wkZ⟩
 ·(have hi:i=b.length:=by rw[zA,hbl'] at h5;exact om);rw[hi,vE,hn] at h2
  subst h2;cbv;exact rA
def Th (s:Scp)(v:Int)(hv:-4611686018427387904<=v)(hv2:v<4611686018427387904)(hn:0<=s.q.g.n)(hn2:s.q.g.n<=256):zC 253 [sv s,iV v] (mlv (mR (s.atLeastM v))):=by
 refine sF Tryz.f253 ?_;have c1:=s32 1 (by decide) (by decide);rw[show (((1:Int):Rat))=(1:Rat) by rfl] at c1;have h1:v<s.q.g.n->mR (s.atLeastM v)=[⟨⟨1,v,0,0⟩,zI 1⟩]:=λh=>by unfold Scp.atLeastM;rw[if_pos h];rfl
 have h2:¬v<s.q.g.n->mR (s.atLeastM v)=[⟨⟨5,v-s.q.g.n,0,0⟩,zI 1⟩]:=λh=>by unfold Scp.atLeastM;rw[if_neg h];rfl
 generalize mR (s.atLeastM v)=res at *;generalize zI 1=O1 at *;cbv;refine zF (λe=>?_) (λe=>?_)
 ·rw[h1 e];cbv;refine cA c1 ?_;cbv
  (refine eF ?_;cbv)
  (refine rC ?_;cbv)
  exact zR rfl
 ·rw[h2 e];cbv;refine zM 10 (by cbv) ?_;cbv;refine⟨zD (by exact om) (by exact om),?_⟩;cbv;refine dA c1 ?_;cbv
  (refine rC ?_;cbv)
  exact zR rfl
def NT (x y:R):mkRat (sgn (x.neg != y.neg) (val x.num*y.d)) (x.d*val y.num)=x.q/y.q:=by rw[jD,R.q,R.q,<-W8,<-W8,<-W8,Rat.inv_divInt,Rat.divInt_mul_divInt];unfold R.n sgn;cases x.neg <;> cases y.neg <;> simp[Rat.divInt_neg',Int.neg_mul,Int.mul_neg]
def FC {q:Rat}:yA q=0↔q=0:=by grind [yA]
def Sy (x y:R)(hx:x.sz (2^31))(hy:y.sz (2^31))(h0:y.q≠0):zC 206 [rv x,rv y] (.tup [rv (zI (x.q/y.q)),iV 0]):=by
 refine sF Tryz.f206 ?_;have h1:=hx.n;have h2:=hx.d;have h3:=hy.n;have h4:=hy.d;have h7:=tK x.den;have h8:=tK y.den;have hyn:val y.num≠0:=λh=>h0 (by
  (have:y.n=0:=by unfold R.n;rw[h];simp[sgn]);rw[R.q,this];simp)
 have csg:=s35 y oM;have hsg:¬yA y.q=0:=λh=>h0 (FC.1 h);have cux:=He x.den oM;have cuy:=He y.den oM;have cm:=s99 (j3 x.den) y.num oM oM;have hml:=dB (j3 x.den) y.num;rw[aG] at cm hml;have cn:=s99 x.num (j3 y.den) oM oM;have hnl:=dB x.num (j3 y.den);rw[aG] at cn hnl;have cq:=Ce (x.neg != y.neg) (zJ (val x.num*y.d)) (zJ (x.d*val y.num)) oM oM (by rw[zP];exact W9 x.d_ne hyn);rw[zP,zP,NT] at cq;have hb:(x.neg != y.neg)=!decide (x.neg=y.neg):=by grind
 clear hml hnl hx hy h0;generalize zI (x.q/y.q)=W at *;generalize yA y.q=sg at *;generalize zJ (x.d*val y.num)=M at *;generalize zJ (val x.num*y.d)=P at *;generalize j3 x.den=ux at *;generalize j3 y.den=uy at *;obtain⟨a,b,c⟩:=x;obtain⟨a',b',c'⟩:=y;simp only at *;generalize (a != a')=nb at *;cbv;refine cA csg ?_;cbv;refine yE hsg ?_;cbv;refine zM 18 (by cbv) ?_;cbv;refine dA cuy ?_;cbv;refine dA cn ?_;cbv;refine dA cux ?_;cbv;refine dA cm ?_;cbv;refine xW (by exact⟨yY hb,lR,lR,trivial⟩) cq rfl ?_;cbv;exact rA
def Tg (s:Scp)(v:Int)(hs:Lsz (2^20) s.lems)(hv:-4611686018427387904<=v)(hv2:v<4611686018427387904)(hn:0<=s.q.g.n)(hn2:s.q.g.n<=256):zC 252 [sv s,iV v] (.tup [mlv (mR ((s.atMostM v).getD [])),zL ((s.atMostM v).isSome)]):=by
 refine sF Tryz.f252 ?_;have c1:=s32 1 (by decide) (by decide);rw[show (((1:Int):Rat))=(1:Rat) by rfl] at c1;have cb:=bB s (v-s.q.g.n) hs;have hbs:=λk h h0=>cE (s:=s) (unit:=v-s.q.g.n) (k:=k) h h0;have hss:=hs.sz;have hva:∀ k m,s.lems[k-1]?=some m->qW s.lems k=m.v.q:=λk m h=>by unfold qW;rw[h];rfl
 have h1:v<s.q.g.n->s.atMostM v=some [(⟨2,v,0,0⟩,1)]:=λh=>by unfold Scp.atMostM;rw[if_pos h]
 have h2:¬v<s.q.g.n->(s.best (v-s.q.g.n)).1=0\/(s.best (v-s.q.g.n)).2=0->s.atMostM v=none:=λh h'=>by unfold Scp.atMostM;rw[if_neg h,if_pos h']
 have h3:¬v<s.q.g.n->¬((s.best (v-s.q.g.n)).1=0\/(s.best (v-s.q.g.n)).2=0)->s.atMostM v=some (upM (v-s.q.g.n) (s.best (v-s.q.g.n)).1 (s.best (v-s.q.g.n)).2 (qW s.lems (s.best (v-s.q.g.n)).1) (qW s.lems (s.best (v-s.q.g.n)).2)):=λh h'=>by unfold Scp.atMostM;rw[if_neg h,if_neg h']
 generalize s.atMostM v=o at *;generalize s.best (v-s.q.g.n)=B at *;obtain⟨b1,b2⟩:=B;dsimp only at h2 h3 hbs cb;have hll:=hs.len;obtain⟨⟨⟨gn,us,os⟩,⟨lo,hi,rows⟩,⟨ts,c1',c2',c3'⟩⟩,path,L⟩:=s;dsimp only at *;obtain⟨res,hres⟩:=ex (mR (o.getD []));obtain⟨bb,hbb⟩:=ex o.isSome;rw[hres,hbb];have r1:v<gn->res=[⟨⟨2,v,0,0⟩,zI 1⟩]/\bb=true:=λh=>by rw[<-hres,<-hbb,h1 h];exact⟨rfl,rfl⟩
 have r2:¬v<gn->b1=0\/b2=0->res=[]/\bb=false:=λh h'=>by rw[<-hres,<-hbb,h2 h h'];exact⟨rfl,rfl⟩
 have r3:¬v<gn->¬(b1=0\/b2=0)->∀ m1 m2,L[b1-1]?=some m1->L[b2-1]?=some m2->res=mR (upM (v-gn) b1 b2 m1.v.q m2.v.q)/\bb=true:=λh h' m1 m2 g1 g2=>by rw[<-hres,<-hbb,h3 h h',hva b1 m1 g1,hva b2 m2 g2];exact⟨rfl,rfl⟩
 clear h1 h2 h3 hres hbb hva hs;obtain⟨O1,hO1⟩:=ex (zI 1);rw[hO1] at c1 r1;cbv;refine cA c1 ?_;cbv;refine zF (λe=>?_) (λe=>?_)
 ·obtain⟨q1,q2⟩:=r1 e;subst q1 q2;cbv
  (refine eF ?_;cbv)
  (refine rC ?_;cbv)
  exact⟨zR rfl,yV rfl,trivial⟩
 cbv;refine⟨zD (by exact om) (by exact om),?_⟩;cbv;refine cA cb ?_;cbv;refine zQ (λe1=>?_) (λe1=>?_);{obtain⟨q1,q2⟩:=r2 e (.inl (by exact om));subst q1 q2;cbv;exact rA};cbv;refine zF (λe2=>?_) (λe2=>?_);{obtain⟨q1,q2⟩:=r2 e (.inr (by exact om));subst q1 q2;cbv;exact rA};have e1':b1≠0:=by exact om
 have e2':b2≠0:=by exact om
 obtain⟨m1,g1,_⟩:=hbs b1 (.inl rfl) e1';obtain⟨m2,g2,_⟩:=hbs b2 (.inr rfl) e2';have r3':=r3 e oM m1 m2 g1 g2;have z1:=hss m1 (z3 g1);have z2:=hss m2 (z3 g2);have l1:=(wE.1 g1).1;have l2:=(wE.1 g2).1;have i1:∀ {K:List PV->Prop},K (lc m1)->IdxOk 6 (λ_=>enc lc L) (λ_=>(b1:Int)-1) K:=λhK=>x5 g1 oM xB y7 hK;have i2:∀ {K:List PV->Prop},K (lc m2)->IdxOk 6 (λ_=>enc lc L) (λ_=>(b2:Int)-1) K:=λhK=>x5 g2 oM xB y7 hK;have csl:=s35 m1.v (by have:=z1.n;omega);have csu:=s35 m2.v (by have:=z2.n;omega);have cdf:=s93 m2.v m1.v (z2.mono (by decide)) (z1.mono (by decide));have fu:=z2.fits (by decide);have fd:=uC fu (z1.fits (by decide));have cdv:m2.v.q-m1.v.q≠0->zC 206 [rv O1,rv (zI (m2.v.q-m1.v.q))] (.tup [rv (zI (1/(m2.v.q-m1.v.q))),iV 0]):=λh=>by have:=Sy (zI 1) (zI (m2.v.q-m1.v.q)) ((zU fits_one).mono (by decide)) ((zU fd).mono (by decide)) (by rw[z6];exact h);rw[z6,z6,hO1] at this;exact this
 have fq:Fits (2^22) (1/(m2.v.q-m1.v.q)):=by rw[jD];exact (y8 fits_one (bI fd)).mono (by decide)
 have cmu:=s77 (zI (1/(m2.v.q-m1.v.q))) m2.v ((zU fq).mono (by decide)) (z2.mono (by decide));rw[z6] at cmu;have hne:¬yA m2.v.q<=0->¬0<=yA m1.v.q->m2.v.q-m1.v.q≠0:=λh h'=>by
  (have hu:0<m2.v.q:=by unfold yA at h;split at h <;> (try split at h) <;> grind);have hl:m1.v.q<0:=by unfold yA at h';split at h' <;> (try split at h') <;> grind
  grind
 have ra:yA m2.v.q<=0->res=[⟨⟨10,v-gn,0,b2⟩,O1⟩]:=λh=>by rw[r3'.1,<-hO1];unfold upM;rw[if_pos h];rfl
 have rb:¬yA m2.v.q<=0->0<=yA m1.v.q->res=[⟨⟨8,v-gn,b1,0⟩,O1⟩,⟨⟨12,v-gn,0,b2⟩,O1⟩]:=λh h'=>by rw[r3'.1,<-hO1];unfold upM;rw[if_neg h,if_pos h'];rfl
 have rcc:¬yA m2.v.q<=0->¬0<=yA m1.v.q->res=[⟨⟨12,v-gn,0,b2⟩,zI (1/(m2.v.q-m1.v.q)*m2.v.q)⟩,⟨⟨13,v-gn,b1,b2⟩,zI (1/(m2.v.q-m1.v.q))⟩]:=λh h'=>by rw[r3'.1];unfold upM;rw[if_neg h,if_neg h'];rfl
 obtain⟨_,q2⟩:=r3';subst q2;have cdv':=λh h'=>cdv (hne h h');clear cdv hne fq fd fu z1 z2 r1 r2 r3 cb hbs c1;generalize yA m2.v.q=su at *;generalize yA m1.v.q=sl at *;generalize zI (1/(m2.v.q-m1.v.q)*m2.v.q)=M at *;generalize zI (1/(m2.v.q-m1.v.q))=Q at *;generalize zI (m2.v.q-m1.v.q)=D at *;cbv;refine vP 17 [(16,10)] (by cbv) (by cbv) (by cbv) ?_;cbv;refine⟨zD (by exact om) (by exact om),i1 ?_⟩;cbv;refine⟨zD (by exact om) (by exact om),i2 ?_⟩;cbv;refine cA csu ?_;cbv;refine zF (λe3=>?_) (λe3=>?_)
 ·have q1:=ra e3;subst q1;cbv
  (refine eF ?_;cbv)
  (refine rC ?_;cbv)
  exact⟨zR rfl,yV rfl,trivial⟩
 cbv;refine cA csl ?_;cbv;refine zF (λe4=>?_) (λe4=>?_)
 ·have q1:=rb e3 e4;subst q1;cbv
  (refine eF ?_;cbv)
  (refine rC ?_;cbv)
  exact⟨zR rfl,yV rfl,trivial⟩
 have q1:=rcc e3 e4;have cd:=cdv' e3 e4;subst q1;cbv;refine vP 10 [(9,12)] (by cbv) (by cbv) (by cbv) ?_;cbv;refine dA cdf ?_;cbv;refine dA cd ?_;cbv;refine zM 13 (by cbv) ?_;cbv;refine dA cmu ?_;cbv
 (refine eF ?_;cbv)
 (refine rC ?_;cbv)
 exact⟨zR rfl,yV rfl,trivial⟩
structure AbvOk (s:Scp) (f:F):Prop where
 cn:Cn f.ts
 fl:f.fl (2^20) (2^30)
 v:∀ t,t∈f.ts->-4611686018427387904<=t.1/\t.1<4611686018427387904
 pre:∀ i l,s.aboveL (f.ts.take i) []=some l->(∀ t,t∈l->Fits (2^28) t.2)/\l.length<=2^36
 most:∀ t,t∈f.ts->∀ more,s.atMostM t.1=some more->(∀ x,x∈more->Fits (2^20) x.2)/\more.length<=32
 sum:∀ l,s.aboveL f.ts []=some l->SumOk s (mR l)
def YG {s:Scp}{t:Int×Rat}{more:List (Row×Rat)}(ht:(if 0<yA t.2 then some (s.atLeastM t.1) else s.atMostM t.1)=some more):∀ {ts:List (Int×Rat)} {l l':List (Row×Rat)},s.aboveL ts l=some l'->s.aboveL (ts++[t]) l=some (xR l' more (vI t.2))
 |[],l,l',h=>by cases h;rw[JF];unfold Scp.aboveL;rw[ht];rfl
 |x::r,l,l',h=>by
  rw[Vv];unfold Scp.aboveL at h ⊢;cases hx:(if 0<yA x.2 then some (s.atLeastM x.1) else s.atMostM x.1) with
  |none=>grind| some g =>
   rw[hx] at h;exact YG ht h
def FW (s:Scp)(v:Int):(∀ x,x∈s.atLeastM v->Fits (2^20) x.2)/\(s.atLeastM v).length<=32:=by unfold Scp.atLeastM;split <;> refine⟨λx hx=>?_,by simp⟩ <;> (obtain rfl:=kJ.1 hx;exact fits_one.mono (by decide))
def Gm (s:Scp)(f:F)(hs:s.sz (2^20))(hn:0<=s.q.g.n)(hn2:s.q.g.n<=256)(hok:AbvOk s f):zC 202 [sv s,fv f] (.tup [rv (zI (((s.above f).map Prod.fst).getD 0)),mlv (mR (((s.above f).map Prod.snd).getD [])),zL ((s.above f).isSome)]):=by
 refine sF Tryz.f202 ?_;have cam:∀ t,t∈f.ts->zC 252 [sv s,iV t.1] (.tup [mlv (mR ((s.atMostM t.1).getD [])),zL ((s.atMostM t.1).isSome)]):=λt ht=>Tg s t.1 hs.lems (hok.v t ht).1 (hok.v t ht).2 hn hn2;have cal:∀ t,t∈f.ts->zC 253 [sv s,iV t.1] (mlv (mR (s.atLeastM t.1))):=λt ht=>Th s t.1 (hok.v t ht).1 (hok.v t ht).2 hn hn2;have csg:∀ t,t∈f.ts->zC 30 [rv (zI t.2)] (iV (yA t.2)):=λt ht=>by have:=s35 (zI t.2) (xP (zU (hok.fl.t t ht)).n (by decide));grind [z6]
 have cmg:∀ t,t∈f.ts->∀ a b,(∀ t,t∈a->Fits (2^28) t.2)->a.length<=2^36->(∀ t,t∈b->Fits (2^20) t.2)->b.length<=32->zC 115 [mlv (mR a),mlv (mR b),.agg [zL false,nat (zI t.2).num,nat (zI t.2).den]] (mlv (mR (xR a b (vI t.2)))):=λt ht a b h1 h2 h3 h4=>by
  (have:=Gl a b ⟨false,(zI t.2).num,(zI t.2).den⟩ h1 h2 (λt ht=>(h3 t ht).mono (by decide)) h4 (by rw[sW];exact zU (j8 (hok.fl.t t ht)));have e:(⟨false,(zI t.2).num,(zI t.2).den⟩:R).q=vI t.2:=by rw[sW,z6]);simp_all
 have cfin:∀ l,s.aboveL f.ts []=some l->zC 166 [sv s,mlv (mR l)] (.tup [fv (s.sum (mR l)).2,iV ((s.sum (mR l)).1)])/\zC 164 [fv f,fv (s.sum (mR l)).2] (fv (f.sub (s.sum (mR l)).2)):=λl hl =>
  ⟨UT s (mR l) hs (hok.sum l hl),Ym hok.cn (Scp.sum_can s _) hok.fl (Scp.sum_fl' (hok.sum l hl)) (by decide) (by decide) (by decide) (by decide)⟩
 have hab:s.above f=(s.aboveL f.ts []).map λl=>((f.sub (s.sum (mR l)).2).c,l):=rfl;rw[hab];obtain⟨o,ho⟩:=ex (s.aboveL f.ts []);rw[ho] at cfin ⊢;obtain⟨AL,hAL⟩:=ex s.aboveL;have hTn:∀ l,AL [] l=some l:=λl=>by rw[<-hAL];rfl
 have hTc:∀ t r l,AL (t::r) l=match (if 0<yA t.2 then some (s.atLeastM t.1) else s.atMostM t.1) with
  |none=>none| some more=>AL r (xR l more (vI t.2)):=λt r l=>by rw[<-hAL];rfl
 obtain⟨PR,hPR⟩:∃ PR:Nat->List (Row×Rat)->Prop,∀ i l,PR i l=(s.aboveL (f.ts.take i) []=some l):=⟨_,λ_ _=>rfl⟩;have hPRs:∀ i t more l,f.ts[i]?=some t->(if 0<yA t.2 then some (s.atLeastM t.1) else s.atMostM t.1)=some more->PR i l->PR (i+1) (xR l more (vI t.2)):=λi t more l h1 h2 h3=>by rw[hPR] at h3 ⊢;rw[Xq h1];exact YG h2 h3
 have hPR0:PR 0 []:=by rw[hPR];rfl
 have hpre:∀ i l,PR i l->(∀ t,t∈l->Fits (2^28) t.2)/\l.length<=2^36:=λi l h=>hok.pre i l (by grind);have hmost:=hok.most;rw[hAL] at ho;have hfl:f.ts.length<2^38:=by have:=hok.fl.len;omega
 obtain⟨V,hV⟩:=ex (fA f);have hVt:∀ (i:Nat) t,f.ts[i]?=some t->V.ts[i]?=some (t.1,zI t.2):=λi t h=>by rw[<-hV];show (tR f.ts)[i]?=_;simp[tR,dH,h]
 have hVl:V.ts.length=f.ts.length:=by rw[<-hV];exact vD _
 have hfv:fv f=av V:=by rw[<-hV]
 rw[hfv] at cfin ⊢;obtain⟨W,hW⟩:∃ W,zI (((o.map λl=>((f.sub (s.sum (mR l)).2).c,l)).map Prod.fst).getD 0)=W:=⟨_,rfl⟩;obtain⟨RL,hRL⟩:∃ W,mR (((o.map λl=>((f.sub (s.sum (mR l)).2).c,l)).map Prod.snd).getD [])=W:=⟨_,rfl⟩;obtain⟨bb,hbb⟩:∃ W,(o.map λl=>((f.sub (s.sum (mR l)).2).c,l)).isSome=W:=⟨_,rfl⟩;rw[hW,hRL,hbb];have gN:o=none->W=R0/\RL=[]/\bb=false:=λh=>by rw[h] at hW hRL hbb;exact⟨hW.symm.trans uJ,hRL.symm,hbb.symm⟩
 have gS:∀ l,o=some l->W=zI (f.sub (s.sum (mR l)).2).c/\RL=mR l/\bb=true:=λl h=>by rw[h] at hW hRL hbb;exact⟨hW.symm,hRL.symm,hbb.symm⟩
 clear hW hRL hbb hab hAL hPR hok hV hfv;obtain⟨w1,w2,w3⟩:=W;have gN':o=none->w1=false/\w2=[]/\w3=[]/\RL=[]/\bb=false:=λh=>by grind
 clear gN;cbv;refine z7 (σ:=Nat×List (Row×Rat)) (λst=>⟨[(2,.ptr 2 0),(3,.ptr 3 0),(4,.ptr 4 0),(7,mlv (mR st.2)),(8,iV st.1)],[(2,.box (sc s)),(3,.box [tsv V.ts,zL V.c.neg,nat V.c.num,nat V.c.den]),(4,.box [.ff,.nil,.nil])]⟩)
  (λst=>st.1<=f.ts.length/\AL (f.ts.drop st.1) st.2=o/\PR st.1 st.2) (λst=>f.ts.length-st.1)
  (0,[]) ⟨xA _,ho,hPR0⟩ (wkZ) ?_
 intro st hst;obtain⟨i,acc⟩:=st;obtain⟨h1,h2,h4⟩:=hst;dsimp only at h1 h2 h4;clear ho hPR0;have h3:=hpre i acc h4;cbv;refine zF (λh5=>?_) (λh5=>?_)
 ·(rw[zA,hVl] at h5;have hlt:i<f.ts.length:=by exact om);obtain⟨t,ht⟩:=zS hlt
  have hmem:=z3 ht;have hx:=hVt i t ht;have cam':=cam t hmem;have cal':=cal t hmem;have csg':=csg t hmem;have hmo:=hmost t hmem;have cmg':=cmg t hmem;obtain⟨X,hX⟩:=ex (zI t.2);simp only[hX] at cmg';rw[hX] at hx csg';clear cam cal csg cmg hmost hVt cfin gS;generalize hsg:yA t.2=sg at *;cbv;refine yL hx wT wO ?_;cbv;refine cA cam' ?_;cbv;refine cA csg' ?_;cbv;refine zF (λe1=>?_) (λe1=>?_)
  ·(have HM:(if 0<yA t.2 then some (s.atLeastM t.1) else s.atMostM t.1)=some (s.atLeastM t.1):=by rw[hsg,if_pos e1]);have hls:=FW s t.1
   (have hPn:=hPRs i t _ acc ht HM h4;have hn':AL (f.ts.drop i) acc=AL (f.ts.drop (i+1)) (xR acc (s.atLeastM t.1) (vI t.2)):=by rw[zY ht,hTc,HM]);rw[hn'] at h2
   have cm:=cmg' acc _ h3.1 h3.2 hls.1 hls.2;clear HM hTc hPRs hn' hls;generalize s.atLeastM t.1=more at *;generalize xR acc more (vI t.2)=acc' at *;cbv;refine cA cal' ?_;cbv;refine cA cm ?_;cbv;exact⟨zD om om,(i+1,acc'),⟨om,h2,hPn⟩,om,wkZ⟩
  ·(have HM0:(if 0<yA t.2 then some (s.atLeastM t.1) else s.atMostM t.1)=s.atMostM t.1:=by rw[hsg,if_neg e1]);cases hoo:s.atMostM t.1 with
   |none =>
    (have hz:o=none:=by rw[<-h2,zY ht,hTc,HM0,hoo]);obtain⟨q1,q2,q3,q4,q5⟩:=gN' hz
    subst q1 q2 q3 q4 q5;cbv;refine zO (λe=>absurd e (by simp)) (λ_=>?_);cbv;exact rA
   |some more =>
    (have hls:=hmo more hoo;have hPn:=hPRs i t more acc ht (HM0.trans hoo) h4;have hn':AL (f.ts.drop i) acc=AL (f.ts.drop (i+1)) (xR acc more (vI t.2)):=by rw[zY ht,hTc,HM0,hoo]);rw[hn'] at h2
    (have cm:=cmg' acc more h3.1 h3.2 hls.1 hls.2;have hg:(s.atMostM t.1).getD []=more:=by rw[hoo];rfl);clear HM0 hTc hPRs hn' hls
    generalize xR acc more (vI t.2)=acc' at *;cbv;refine zO (λ_=>?_) (λe=>absurd e (by simp));cbv;refine yJ rfl (by exact⟨lR,zR rfl,okA,trivial⟩) cm rfl ?_;cbv;exact⟨zD om om,(i+1,acc'),⟨om,h2,hPn⟩,om,wkZ⟩
 ·(have hi:i=f.ts.length:=by rw[zA,hVl] at h5;exact om);rw[hi,vE,hTn] at h2
  obtain⟨c1,c2⟩:=cfin acc h2.symm;obtain⟨q1,q2,q3⟩:=gS acc h2.symm;subst q2 q3
  (try dsimp only [fv] at c1 c2)
  have e1:fA (f.sub (s.sum (mR acc)).2)=⟨tR (f.sub (s.sum (mR acc)).2).ts,zI (f.sub (s.sum (mR acc)).2).c⟩:=rfl;rw[e1,<-q1] at c2;generalize tR (f.sub (s.sum (mR acc)).2).ts=TT at *;generalize fA (s.sum (mR acc)).2=SS at *;generalize (s.sum (mR acc)).1=code at *;clear q1 e1 gS gN' cfin;cbv;refine cA c1 ?_;cbv;refine cA c2 ?_;cbv;exact rA
end Go.Proofs.YtaeaffgjdcigoaaGreat
