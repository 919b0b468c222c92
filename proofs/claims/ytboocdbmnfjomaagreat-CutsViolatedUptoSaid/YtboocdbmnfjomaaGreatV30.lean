/- A part of the proof: RtC, RuA, RuB, RuC, RuD, RuE, RuF, RuG, RuH. -/
import Derived.Test.YtboocdbmnfjomaaGreatV29
import Derived.Test.YtboocdbmnfjomaaGreatV26
import Derived.Test.YtboocdbmnfjomaaGreatV27
import Derived.Test.YtboocdbmnfjomaaGreatV25
set_option linter.all false
namespace Go.Proofs.YtboocdbmnfjomaaGreat
open Go
set_option maxRecDepth 100000
set_option maxHeartbeats 4000000
def HU (i:Int)(x:R)(hx:x.sz (2^26)):zH 90 [av (fA (F.var i)),av ⟨[],x⟩] (av (fA ((F.var i).sub (F.num x.q)))):=by have h:=JT (F.var i).ts (zK (F.var i).c) ⟨[],x⟩ (t7 i) Cn.nil ⟨by show 1<_;decide,λt ht=>((gR i).t t ht).mono (by decide)⟩ ((z5 (gR i).c).mono (by decide)) ⟨⟨by grind,λt ht=>absurd ht (by simp)⟩,hx⟩ (by show 1+0<_;decide);rw[yD] at h;exact h
def Sc (i:Int)(x:R)(hx:x.sz (2^26)):zH 90 [av ⟨[],x⟩,av (fA (F.var i))] (av (fA ((F.num x.q).sub (F.var i)))):=by have h:=JT [] x (fA (F.var i)) Cn.nil (by rw[show (fA (F.var i)).ts=tR (F.var i).ts from rfl,Vu];exact t7 i) ⟨by grind,λt ht=>absurd ht (by simp)⟩ (hx.mono (by decide)) ((Gv (gR i) (by decide)).mono (by decide)) (by rw[show (fA (F.var i)).ts=tR (F.var i).ts from rfl,vR];show 0+1<_;decide);rw[dO] at h;exact h
def Bv {s:Scp}{r:Row}(h:14<=r.k):s.fUn r=none:=by unfold Scp.fUn;split;{split;{unfold unF;grind};{rfl}};{rfl}
def Xn (s:Scp)(r:Row)(hs:s.sz (2^20)):zH 39 [sv s,rwv r] (.tup [fv ((s.fm r).getD F.zero),zM ((s.fm r).isSome)]):=by
 refine sF Tryz.f39 ?_;have cv:=DY s.q (hs.q.mono (by decide));have cun:=λ(h:s.q.valid=true)=>PC s r hs (Qry.can_of h) (Qry.vok_of h).n1 (Qry.vok_of h).n2 (Qry.vok_of h).ul (Qry.vok_of h).up;have crw:=λ(h:s.q.valid=true)=>(Qry.can_of h).rows;have hft:∀ d,d∈s.path->zH 92 [qv s.q,dv d] (zM (d.fits s.q)):=λd hd=>D1 s.q d ((hs.path.sz d hd).mono (by decide));have f2:s.q.valid=false->s.fm r=none:=λh=>if_pos (.inr (.inr h));have f0:r.k<1->s.fm r=none:=λh=>if_pos (.inl h);have f3:s.q.valid=true->1<=r.k->r.k<=4->s.fm r=s.fIn r:=λh h1 h2=>by unfold Scp.fm;grind
 have f4:s.q.valid=true->5<=r.k->s.fm r=s.fUn r:=λh h1=>by by_cases h14:14<=r.k;{rw[Bv h14];exact if_pos (.inr (.inl h14))};unfold Scp.fm;grind
 have fno:¬(r.plain=true/\0<=r.i)->s.fIn r=none:=λh=>if_neg h;have p1:r.plain=true->0<=r.i->r.k=1->s.fIn r=s.q.r.lo[r.i.toNat]?.map λx=>(F.var r.i).sub (F.num x.q):=λh1 h2 h3=>by unfold Scp.fIn;grind
 have p2:r.plain=true->0<=r.i->r.k=2->s.fIn r=s.q.r.hi[r.i.toNat]?.map λx=>(F.num x.q).sub (F.var r.i):=λh1 h2 h3=>by unfold Scp.fIn;grind
 have p3:r.plain=true->0<=r.i->r.k=3->s.fIn r=s.q.r.rows[r.i.toNat]?.map λf=>f.f.add F.zero:=λh1 h2 h3=>by unfold Scp.fIn;grind
 have p4:∀ d,r.plain=true->0<=r.i->r.k=4->s.path[r.i.toNat]?=some d->s.fIn r=if d.fits s.q=true then (if d.k=3 then some ((F.var d.i).sub (F.num d.x.q)) else if d.k=4 then some (((F.var d.i).sub (F.num d.x.q)).scale (-1)) else none) else none:=λd h1 h2 h3 h4=>by unfold Scp.fIn;grind
 have p4n:r.plain=true->0<=r.i->r.k=4->s.path[r.i.toNat]?=none->s.fIn r=none:=λh1 h2 h3 h4=>by unfold Scp.fIn;grind
 have hlo:=hs.q.r.lo.sz;have hhi:=hs.q.r.hi.sz;have hpa:=hs.path.sz;obtain⟨ft,hftd⟩:∃ ft:Dec->Bool,∀ d,ft d=d.fits s.q:=⟨_,λ_=>rfl⟩;simp only[<-hftd] at hft p4;clear hftd;obtain⟨o,ho⟩:∃ o,o=s.fm r:=⟨_,rfl⟩;rw[<-ho] at f0 f2 f3 f4 ⊢;obtain⟨W,hW⟩:∃ W,W=fA (o.getD F.zero):=⟨_,rfl⟩;obtain⟨b,hb⟩:∃ b,b=o.isSome:=⟨_,rfl⟩;rw[show fv (o.getD F.zero)=av W by rw[hW],<-hb];have fin2:∀ f,o=some f->W=fA f/\b=true:=λf h=>by grind
 have fin1:o=none->W=⟨[],R0⟩/\b=false:=λh=>by grind [dP]
 obtain⟨wt,w1,w2,w3⟩:=W;have fin3:o=none->wt=[]/\w1=false/\w2=[]/\w3=[]/\b=false:=λh=>by grind
 clear fin1;have g4:s.q.valid=true->5<=r.k->zH 89 [sv s,rwv r] (.tup [av ⟨wt,w1,w2,w3⟩,zM b]):=λh h1=>by rw[hW,hb,f4 h h1];grind
 clear hW hb f4 cun ho;generalize s.q.valid=vd at *;generalize s.fIn r=oi at *;obtain⟨⟨⟨gn,us,os⟩,⟨lo,hi,rows⟩,⟨ts,c1,c2,c3⟩⟩,path,lems⟩:=s;obtain⟨k,i,rlo,rhi⟩:=r;simp only[Row.plain] at f0 f2 f3 fno p1 p2 p3 p4 p4n hlo hhi hpa crw hft g4;cbv;refine cA cv ?_;cbv;refine zZ (λev=>?_) (λev=>?_)
 rotate_left
 {cbv;obtain⟨q0,q1,q2,q3,q4⟩:=fin3 (f2 ev);subst q0 q1 q2 q3 q4;exact rA};cbv;refine zG (λe5=>?_) (λe5=>?_);{have g:=g4 ev e5;cbv;refine cA g ?_;cbv;exact rA};dsimp only at e5;have f5:oi=none->o=none:=λh=>by by_cases h1:k<1;{exact f0 h1};{rw[f3 ev oM oM,h]}
 have f6:∀ f,1<=k->oi=some f->o=some f:=λf h1 h=>by rw[f3 ev h1 oM,h]
 clear g4 f2 cv f3;have Z:=λ(h:oi=none)=>fin3 (f5 h);clear f5;cbv;refine zX (λe1=>?_) (λe1=>?_)
 rotate_left
 {have hz:oi=none:=fno (by grind);cbv;obtain⟨q0,q1,q2,q3,q4⟩:=Z hz;subst q0 q1 q2 q3 q4;exact rA};cbv;refine zX (λe2=>?_) (λe2=>?_)
 rotate_left
 {have hz:oi=none:=fno (by grind);cbv;obtain⟨q0,q1,q2,q3,q4⟩:=Z hz;subst q0 q1 q2 q3 q4;exact rA};cbv;refine zG (λe3=>?_) (λe3=>?_);{have hz:oi=none:=fno (by grind);cbv;obtain⟨q0,q1,q2,q3,q4⟩:=Z hz;subst q0 q1 q2 q3 q4;exact rA};cbv;have hpl:(decide (rlo=0)&&decide (rhi=0))=true:=by grind
 obtain⟨ip,hip⟩:∃ j:Nat,i=(j:Int):=⟨i.toNat,by grind⟩;subst hip;simp only[uF] at p1 p2 p3 p4 p4n;have hk:k=1\/k=2\/k=3\/k=4\/k<1:=by omega
 rcases hk with rfl|rfl|rfl|rfl|hk
 ·refine xD (by simp) ?_;cbv;refine zG (λe=>?_) (λe=>?_)
  ·(have hl:=tB e;obtain⟨x,hx⟩:=yB hl;have hxm:=yE hx;have po:=p1 hpl (by show (0:Int)<=(ip:Int);omega) rfl;rw[hx] at po;have T:=fin2 _ (f6 _ (by decide) po);have dv:=Zu (ip:Int);have dn:=Xm x;have d:=HU (ip:Int) x ((hlo x hxm).mono (by decide));obtain⟨V,hV⟩:=ex (fA (F.var (ip:Int)));obtain⟨X,hX⟩:=ex (fA ((F.var (ip:Int)).sub (F.num x.q)));rw[hX] at T d;rw[hV] at d;have dv':zH 22 [iV ip] (av V):=by subst hV;exact dv);clear dv hX hV
   cbv;refine zP 11 (by cbv) ?_;cbv;refine dA dv' ?_;cbv;refine xL hx jW cH ?_;cbv;refine dA dn ?_;cbv;refine dA d ?_;cbv;obtain⟨g1,g2⟩:=T;cases g1;subst g2;exact rA
  ·(have hz:oi=none:=by have hl:¬ip<lo.length:=λh=>e (by rw[zB];show (ip:Int)<(lo.length:Int);omega);rw[p1 hpl (by show (0:Int)<=(ip:Int);omega) rfl,rM oM];rfl);cbv;obtain⟨q0,q1,q2,q3,q4⟩:=Z hz;subst q0 q1 q2 q3 q4;exact rA
 ·skip
  refine yA (by simp) ?_;cbv;refine xD (by simp) ?_;cbv;refine zG (λe=>?_) (λe=>?_)
  ·(have hl:=tB e;obtain⟨x,hx⟩:=yB hl;have hxm:=yE hx;have po:=p2 hpl (by show (0:Int)<=(ip:Int);omega) rfl;rw[hx] at po;have T:=fin2 _ (f6 _ (by decide) po);have dv:=Zu (ip:Int);have dn:=Xm x;have d:=Sc (ip:Int) x ((hhi x hxm).mono (by decide));obtain⟨V,hV⟩:=ex (fA (F.var (ip:Int)));obtain⟨X,hX⟩:=ex (fA ((F.num x.q).sub (F.var (ip:Int))));rw[hX] at T d;rw[hV] at d;have dv':zH 22 [iV ip] (av V):=by subst hV;exact dv);clear dv hX hV
   cbv;refine zP 11 (by cbv) ?_;cbv;refine xL hx jW cH ?_;cbv;refine dA dn ?_;cbv;refine dA dv' ?_;cbv;refine dA d ?_;cbv;obtain⟨g1,g2⟩:=T;cases g1;subst g2;exact rA
  ·(have hz:oi=none:=by have hl:¬ip<hi.length:=λh=>e (by rw[zB];show (ip:Int)<(hi.length:Int);omega);rw[p2 hpl (by show (0:Int)<=(ip:Int);omega) rfl,rM oM];rfl);cbv;obtain⟨q0,q1,q2,q3,q4⟩:=Z hz;subst q0 q1 q2 q3 q4;exact rA
 ·skip
  refine yA (by simp) ?_;cbv;refine yA (by simp) ?_;cbv;refine xD (by simp) ?_;cbv;refine zG (λe=>?_) (λe=>?_);{have hl:=tB e;obtain⟨x,hx⟩:=yB hl;obtain⟨w1',w2'⟩:=crw ev x (yE hx);have po:=p3 hpl (by show (0:Int)<=(ip:Int);omega) rfl;rw[hx] at po;have T:=fin2 (x.f.add F.zero) (f6 _ (by decide) po);rw[add_zero w2',w1'] at T;cbv;refine xL hx kX fI ?_;cbv;obtain⟨g1,g2⟩:=T;cases g1;subst g2;exact rA}
  ·(have hz:oi=none:=by have hl:¬ip<rows.length:=λh=>e (by rw[zB];show (ip:Int)<(rows.length:Int);omega);rw[p3 hpl (by show (0:Int)<=(ip:Int);omega) rfl,rM oM];rfl);cbv;obtain⟨q0,q1,q2,q3,q4⟩:=Z hz;subst q0 q1 q2 q3 q4;exact rA
 ·skip
  refine yA (by simp) ?_;cbv;refine yA (by simp) ?_;cbv;refine yA (by simp) ?_;cbv;refine xD (by simp) ?_;cbv;refine zP 18 (by cbv) ?_;cbv;refine zX (λe=>?_) (λe=>?_);{have hz:oi=none:=p4n hpl (by show (0:Int)<=(ip:Int);omega) rfl (rM (by rw[zB] at e;exact om));cbv;obtain⟨q0,q1,q2,q3,q4⟩:=Z hz;subst q0 q1 q2 q3 q4;exact rA}
  (have hl:ip<path.length:=by rw[zB] at e;exact om);obtain⟨x,hx⟩:=yB hl
  (have hxm:=yE hx;have po:=p4 x hpl (by show (0:Int)<=(ip:Int);omega) rfl hx;have hsz:=hpa x hxm;have cf:=hft x hxm;have dv:=Zu x.i;have dn:=Xm x.x;have d:=HU x.i x.x (hsz.mono (by decide));have co:=s32 (-1) (by decide) (by decide);have d2:=pT (q:=((-1:Int):Rat)) ((gR x.i).sub (j6 (hsz.fits (by decide)))) uZ (by decide) (by decide) (m:=1) (by decide);rw[show (((-1:Int):Rat))=(-1:Rat) by rfl] at co d2;obtain⟨V,hV⟩:=ex (fA (F.var x.i));obtain⟨X,hX⟩:=ex (fA ((F.var x.i).sub (F.num x.x.q)));obtain⟨Y,hY⟩:=ex (fA (((F.var x.i).sub (F.num x.x.q)).scale (-1)));obtain⟨M1,hM1⟩:=ex (zK (-1:Rat));have T3:=λh=>fin2 ((F.var x.i).sub (F.num x.x.q)) h;have T4:=λh=>fin2 (((F.var x.i).sub (F.num x.x.q)).scale (-1)) h;rw[hX] at T3 d;rw[hV] at d;rw[hY] at T4;rw[hM1] at co;have dv':zH 22 [iV x.i] (av V):=by subst hV;exact dv);have d2':zH 24 [av X,rv M1] (av Y):=by subst hX hY hM1;exact d2
  clear dv d2 hX hV hY hM1;obtain⟨fx,hfx⟩:=ex (ft x);rw[hfx] at cf po;cbv;refine xL hx tC iW ?_;cbv;refine dA cf ?_;cbv;refine zZ (λe2=>?_) (λe2=>?_)
  rotate_left
  ·(have hz:oi=none:=by rw[po,e2];rfl);cbv
   obtain⟨q0,q1,q2,q3,q4⟩:=Z hz;subst q0 q1 q2 q3 q4;exact rA
  rw[if_pos e2] at po;cbv;refine xL hx tC iW ?_;cbv;refine dR 8 (by cbv) (by cbv) ?_;cbv;refine dA dv' ?_;cbv;refine dA dn ?_;cbv;refine dA d ?_;cbv;refine zG (λe3=>?_) (λe3=>?_);{rw[if_pos e3] at po;have T:=T3 (f6 _ (by decide) po);cbv;obtain⟨g1,g2⟩:=T;cases g1;subst g2;exact rA};rw[if_neg e3] at po;cbv;refine zG (λe4=>?_) (λe4=>?_);{rw[if_pos e4] at po;have T:=T4 (f6 _ (by decide) po);cbv;refine zP 3 (by cbv) ?_;cbv;refine dA co ?_;cbv;refine dA d2' ?_;cbv;obtain⟨g1,g2⟩:=T;cases g1;subst g2;exact rA};rw[if_neg e4] at po;cbv;obtain⟨q0,q1,q2,q3,q4⟩:=Z po;subst q0 q1 q2 q3 q4;exact rA
 ·skip
  refine yA (by grind) ?_;cbv;refine yA (by grind) ?_;cbv;refine yA (by grind) ?_;cbv;refine yA (by grind) ?_;cbv;obtain⟨q0,q1,q2,q3,q4⟩:=fin3 (f0 oM);subst q0 q1 q2 q3 q4;exact rA
def SG {s:Scp}{r:Row}{f:F}(hc:s.q.can)(h:s.fIn r=some f):Cn f.ts:=by unfold Scp.fIn at h;split at h;{split at h;{obtain⟨x,_,rfl⟩:=Yr.1 h;exact Y7 (t7 _) Cn.nil};{split at h;{obtain⟨x,_,rfl⟩:=Yr.1 h;grind [Y7,Cn.nil,F.num,t7]};{split at h;{obtain⟨x,hx,rfl⟩:=Yr.1 h;have:=(hc.rows x (yE hx)).2;grind [add_zero]};{split at h;{split at h;{split at h;{split at h;{cases h;exact Y7 (t7 _) Cn.nil};{split at h;{cases h;exact rV (Y7 (t7 _) Cn.nil)};grind}};grind};grind};grind}}}};grind
def Bf {s:Scp}{r:Row}{f:F}(h:s.fm r=some f):Cn f.ts:=by unfold Scp.fm at h;split at h;{cases h};{rename_i hv;have hc:s.q.can:=Qry.can_of (by grind);split at h;{exact SG hc h};{unfold Scp.fUn at h;split at h;{split at h;{rename_i p hp;exact RE (hc.us p (yE hp)).2 (t7 _) h};grind};grind}}
structure SumOk (s:Scp) (l:List Mult):Prop where
 fm:∀ m,m∈l->∀ f,s.fm m.row=some f->f.fl (2^24) 5000
 c:Msz (2^23) l
 pre:∀ i acc,sumL s F.zero (l.take i)=some acc->acc.fl (2^26) (2^30)
theorem Vw {s:Scp}{m:Mult}{f:F}(hf:s.fm m.row=some f):∀ {l:List Mult} {acc acc':F},sumL s acc l=some acc'->sumL s acc (l++[m])=some (acc'.add (f.scale m.c.q))
 |[],acc,acc',h=>by cases h;show (match s.fm m.row with|none=>none|some f=>sumL s (acc.add (f.scale m.c.q)) [])=_;rw[hf];rfl
 |x::r,acc,acc',h=>by
  rw[Vm];unfold sumL at h ⊢;cases hx:s.fm x.row with
  |none=>grind| some g =>
   rw[hx] at h;exact Vw hf h
def Y6 {α:Type}{l:List α}{i:Nat}{a:α}(h:l[i]?=some a):l.take (i+1)=l.take i++[a]:=by rw[rJ,h];rfl
def A8 (s:Scp)(l:List Mult)(hs:s.sz (2^20))(hok:SumOk s l):zH 123 [sv s,mlv l] (.tup [fv (s.sum l).2,iV ((s.sum l).1)]):=by
 refine sF Tryz.f123 ?_;have hl:=hok.c;have cc:=Pz l (hl.mono (by decide));have cf:=λr=>Xn s r (hs.mono (by decide));have h0:tK none l=false->s.sum l=(1,F.zero):=λh=>if_pos h;have h1:tK none l=true->sumL s F.zero l=none->s.sum l=(12,F.zero):=λh g=>by unfold Scp.sum;grind
 have h2:∀ f,tK none l=true->sumL s F.zero l=some f->s.sum l=(0,f):=λf h g=>by unfold Scp.sum;grind
 obtain⟨W,hW⟩:∃ W,W=fA (s.sum l).2:=⟨_,rfl⟩;obtain⟨e,he⟩:∃ e,e=(s.sum l).1:=⟨_,rfl⟩;rw[show fv (s.sum l).2=av W by rw[hW],<-he];have g0:tK none l=false->W=⟨[],R0⟩/\e=1:=λh=>by grind [dP]
 have g1:tK none l=true->sumL s F.zero l=none->W=⟨[],R0⟩/\e=12:=λh g=>by grind [dP]
 have g2:∀ f,tK none l=true->sumL s F.zero l=some f->W=fA f/\e=0:=λf h g=>by grind
 clear h0 h1 h2 hW he;have hll:l.length<2^38:=hl.len;have hsn:∀ acc m r,sumL s acc (m::r)=match s.fm m.row with
  |none=>none| some f=>sumL s (acc.add (f.scale m.c.q)) r:=λ_ _ _=>rfl
 have hfl:∀ m,m∈l->∀ f,s.fm m.row=some f->f.fl (2^24) 5000/\Cn f.ts:=λm hm f h=>⟨hok.fm m hm f h,Bf h⟩;have hpre:=hok.pre;have hsn':∀ i m f acc,l[i]?=some m->s.fm m.row=some f->sumL s F.zero (l.take i)=some acc->sumL s F.zero (l.take (i+1))=some (acc.add (f.scale m.c.q)):=λi m f acc h1 h2 h3=>by rw[Y6 h1];grind [Vw]
 obtain⟨PR,hPR⟩:∃ PR:Nat->F->Prop,∀ i acc,PR i acc=(sumL s F.zero (l.take i)=some acc):=⟨_,λ_ _=>rfl⟩;have hPR0:PR 0 F.zero:=by rw[hPR];rfl
 simp only[<-hPR] at hpre hsn';have hms:=hl.sz;obtain⟨T,hT⟩:∃ T:F->List Mult->Option F,sumL s=T:=⟨_,rfl⟩;have hTn:∀ acc,T acc []=some acc:=λacc=>by rw[<-hT];rfl
 rw[hT] at hsn g1 g2;generalize tK none l=cn at *;clear hT hs hl hok hPR;cbv;refine cA cc ?_;cbv;refine zZ (λe1=>?_) (λe1=>?_)
 rotate_left
 {cbv;obtain⟨q1,q2⟩:=g0 e1;subst q1 q2;exact rA};have g1':=g1 e1;have g2':=λf=>g2 f e1;clear g0 g1 g2 cc;cbv;refine zY (σ:=Nat×F) (λst=>⟨[(1,mlv l),(2,.ptr 2 0),(4,.ptr 4 0),(6,.ptr 6 0),(7,iV st.1)],[(2,.box (sc s)),(4,.box [.nil,.ff,.nil,.nil]),(6,.box [tsv (fA st.2).ts,zM ((fA st.2).c.neg),nat (fA st.2).c.num,nat (fA st.2).c.den])]⟩)
  (λst=>st.1<=l.length/\T F.zero l=T st.2 (l.drop st.1)/\PR st.1 st.2/\Cn st.2.ts) (λst=>l.length-st.1)
  (0,F.zero) ⟨om,rfl,hPR0,Cn.nil⟩ (.le okZ ?_ rfl) ?_
 {show leO _ [(2,.box (sc s)),(4,.box [.nil,.ff,.nil,.nil]),(6,.box [tsv (fA F.zero).ts,zM ((fA F.zero).c.neg),nat (fA F.zero).c.num,nat (fA F.zero).c.den])];rw[dP];cbv;exact okA};intro st hst;obtain⟨h1,hv,ha,hcn⟩:=hst;generalize st.1=i at *;generalize st.2=acc at *;obtain⟨V,hV⟩:=ex (fA acc);simp only[hV];cbv;refine zG (λh5=>?_) (λh5=>?_)
 ·have hlt:=tB h5;obtain⟨m,hm⟩:=yB hlt;have hmem:=yE hm;rw[yJ hm,hsn] at hv;have cfm:=cf m.row;have hmc:=hms m hmem;have hxf:∀ f,s.fm m.row=some f->f.fl (2^24) 5000/\Cn f.ts:=λf h=>hfl m hmem f h;have hnx:∀ f,s.fm m.row=some f->PR (i+1) (acc.add (f.scale m.c.q)):=λf h=>hsn' i m f acc hm h ha;have hap:=hpre i acc ha;generalize hx:s.fm m.row=o at *;clear cf;cases o with
  |none =>
   (have hv':T F.zero l=none:=hv;obtain⟨q1,q2⟩:=g1' hv';have cfm':zH 39 [sv s,rwv m.row] (.tup [av ⟨[],R0⟩,zM false]):=by have h:zH 39 [sv s,rwv m.row] (.tup [av (fA F.zero),zM false]):=cfm;rw[dP] at h;exact h);clear cfm hv hv' g1' g2';subst q1 q2;cbv;refine uB 12 [(11,8)] (by cbv) (by cbv) (by cbv) ?_;cbv;refine xL hm w5 x6 ?_;cbv;refine dA cfm' ?_;cbv;refine zZ (λe=>absurd e (by decide)) (λ_=>?_);cbv;exact rA
  |some f =>
   have hv':T F.zero l=T (acc.add (f.scale m.c.q)) (l.drop (i+1)):=hv;obtain⟨hf,hfc⟩:=hxf f rfl;have b1:=hf.scale (hmc.fits (by decide));have cs:=eS (fA f) m.c ((hf.fit (by decide)).fA.mono (by decide)) (hmc.mono (by decide));rw[dO] at cs;have ca:=Rd hcn (rV (q:=m.c.q) hfc) hap b1 (by decide) (by decide) (by decide) (by decide);have hacc:=hnx f rfl;have hcn':Cn (acc.add (f.scale m.c.q)).ts:=hcn.mrg (rV hfc);have cfm':zH 39 [sv s,rwv m.row] (.tup [av (fA f),zM true]):=cfm;clear cfm hv hxf b1 ha hap hnx hcn hfc;dsimp only [fv] at cs ca;rw[hV] at ca;generalize hA':acc.add (f.scale m.c.q)=acc' at *;obtain⟨V',hV'⟩:=ex (fA acc');rw[hV'] at ca;generalize fA (f.scale m.c.q)=X at *;generalize fA f=Y at *;cbv;refine uB 12 [(11,8)] (by cbv) (by cbv) (by cbv) ?_;cbv;refine xL hm w5 x6 ?_;cbv;refine dA cfm' ?_;cbv;refine zZ (λ_=>?_) (λe=>absurd e (by decide));cbv;refine zP 9 (by cbv) ?_;cbv;refine xL hm w5 x6 ?_;cbv;refine dA cs ?_;cbv;refine dA ca ?_;cbv;refine⟨zE om om,(i+1,acc'),⟨om,hv',hacc,hcn'⟩,om,.le okZ ?_ rfl⟩;show leO _ [(2,.box (sc s)),(4,.box [.nil,.ff,.nil,.nil]),(6,.box [tsv (fA acc').ts,zM ((fA acc').c.neg),nat (fA acc').c.num,nat (fA acc').c.den])];rw[hV'];cbv;exact okA
 {have hi:i=l.length:=ZN h5 h1;rw[hi,vE,hTn] at hv;obtain⟨q1,q2⟩:=g2' acc hv;rw[hV] at q1;clear g1' g2' hv;subst q1 q2;cbv;exact rA}
def HK {s:Scp}:∀ {l:List Mult} {acc f:F},Cn acc.ts->sumL s acc l=some f->Cn f.ts
 |[],acc,f,h,e=>by cases e;exact h
 |m::r,acc,f,h,e=>by
  unfold sumL at e;cases hx:s.fm m.row with
  |none=>grind| some g =>
   rw[hx] at e;exact HK (h.mrg (rV (Bf hx))) e
theorem Scp.sum_can (s:Scp)(l:List Mult):Cn (s.sum l).2.ts:=by unfold Scp.sum;split;{exact Cn.nil};{split;{exact Cn.nil};{rename_i h;exact HK (acc:=F.zero) Cn.nil h}}
theorem Scp.sum_fl' {s:Scp}{l:List Mult}(h:SumOk s l):(s.sum l).2.fl (2^26) (2^30):=by unfold Scp.sum;split;{exact zero_fl.mono (by decide) (by decide)};{split;{exact zero_fl.mono (by decide) (by decide)};{rename_i f hf;exact h.pre l.length f (by grind)}}


def Xo (s:Scp)(unit:Int)(hs:Lsz (2^20) s.lems):zH 87 [sv s,iV unit] (.tup [iV (((s.best unit).1:Int)),iV (((s.best unit).2:Int))]):=by
 refine sF Tryz.f87 ?_;have hll:=hs.len;obtain⟨⟨⟨gn,us,os⟩,⟨lo,hi,rows⟩,⟨ts,c1,c2,c3⟩⟩,path,L⟩:=s;dsimp only at hs hll;have cc:∀ m m',m∈L->m'∈L->zH 47 [rv m.v,rv m'.v] (iV (wX m.v.q m'.v.q)):=λm m' h h'=>s42 m.v m'.v ((hs.sz m h).mono (by decide)) ((hs.sz m' h').mono (by decide));have hst:∀ n m r b,j5 L unit n (m::r) b=j5 L unit (n+1) r (if m.u=unit then (if m.up=true then (if b.2=0\/wX m.v.q (wO L b.2)<0 then (b.1,n+1) else b) else (if b.1=0\/0<wX m.v.q (wO L b.1) then (n+1,b.2) else b)) else b):=λ_ _ _ _=>rfl;have hva:∀ k m,L[k-1]?=some m->wO L k=m.v.q:=λk m h=>by grind [wO]
 have hni:∀ n b,j5 L unit n [] b=b:=λ_ _=>rfl;have hgoal:((⟨⟨⟨gn,us,os⟩,⟨lo,hi,rows⟩,⟨ts,c1,c2,c3⟩⟩,path,L⟩:Scp).best unit)=j5 L unit 0 L (0,0):=rfl;rw[hgoal];obtain⟨B,hB⟩:=ex (j5 L unit 0 L (0,0));rw[hB];obtain⟨B1,B2⟩:=B;dsimp only;generalize j5 L unit=BG at *;clear hgoal;cbv;refine zY (σ:=Nat×Nat×Nat) (λst=>⟨[(1,iV unit),(2,.ptr 2 0),(6,iV st.2.1),(7,iV st.2.2),(8,iV (((st.1+1:Nat):Int)))],[(2,.box [iV gn,alv us,alv os,rlv lo,rlv hi,alv rows,tsv ts,zM c1,nat c2,nat c3,dlv path,llv L])]⟩)
  (λst=>st.1<=L.length/\BG st.1 (L.drop st.1) st.2=(B1,B2)/\st.2.1<=L.length/\st.2.2<=L.length) (λst=>L.length-st.1)
  (0,0,0) ⟨by omega,hB,xO _,xO _⟩ (wkZ) ?_
 intro st hst';obtain⟨i,b1,b2⟩:=st;obtain⟨h1,h2,h3,h4⟩:=hst';dsimp only at h1 h2 h3 h4;clear hB;cbv;refine zG (λh5=>?_) (λh5=>?_)
 ·(rw[zB] at h5;have hlt:i<L.length:=by exact om);obtain⟨m,hm⟩:=yB hlt
  (have hmem:=yE hm;rw[yJ hm,hst] at h2;have idx:∀ {K:List PV->Prop},K (lc m)->IdxOk 6 (λ_=>enc lc L) (λ_=>((i+1:Nat):Int)-1) K:=λhK=>u9 hm oM kC j7 hK;have hin:∀ k:Nat,k<=L.length->¬k=0->∃ m',m'∈L/\wO L k=m'.v.q/\∀ {K:List PV->Prop},K (lc m')->IdxOk 6 (λ_=>enc lc L) (λ_=>(k:Int)-1) K:=λk hk h0=>by obtain⟨m',hm'⟩:=yB (l:=L) (i:=k-1) oM;exact⟨m',yE hm',hva k m' hm',λhK=>u9 hm' oM kC j7 hK⟩);clear hst hva;cbv;refine⟨zE om om,idx ?_⟩;cbv;refine zG (λe1=>?_) (λe1=>?_)
  ·rw[if_pos e1] at h2;cbv;refine zP 19 (by cbv) ?_;cbv;refine yI (λe2=>?_) (λe2=>?_)
   ·rw[if_pos e2] at h2;cbv;refine zX (λe3=>?_) (λe3=>?_)
    ·(have e3':b2=0:=by exact om);rw[if_pos (.inl e3')] at h2
     cbv;refine zP 20 (by cbv) ?_;cbv;refine yI (λe4=>?_) (λe4=>by rw[e2] at e4;cases e4);cbv;exact⟨zE om om,(i+1,b1,(i+1)),⟨om,h2,oM,(by grind)⟩,om,wkZ⟩
    (have e3':¬b2=0:=by exact om);obtain⟨m',hm',hv',idx'⟩:=hin b2 h4 e3'
    have cx:=cc m m' hmem hm';rw[hv'] at h2;generalize wX m.v.q m'.v.q=x at *;cbv;refine⟨zE om om,idx' ?_⟩;cbv;refine dA cx ?_;cbv;refine zG (λe5=>?_) (λe5=>?_);{rw[if_pos (.inr e5)] at h2;cbv;refine zP 20 (by cbv) ?_;cbv;refine yI (λe4=>?_) (λe4=>by rw[e2] at e4;cases e4);cbv;exact⟨zE om om,(i+1,b1,(i+1)),⟨om,h2,oM,(by grind)⟩,om,wkZ⟩};{rw[if_neg (λh=>h.elim e3' e5)] at h2;cbv;refine zP 20 (by cbv) ?_;cbv;refine yI (λe4=>?_) (λe4=>by rw[e2] at e4;cases e4);cbv;exact⟨zE om om,(i+1,b1,b2),⟨om,h2,oM,oM⟩,om,wkZ⟩}
   ·rw[if_neg (by grind)] at h2;cbv;refine zP 20 (by cbv) ?_;cbv;refine yI (λe4=>by rw[e2] at e4;cases e4) (λe4=>?_);cbv;refine zX (λe3=>?_) (λe3=>?_)
    ·(have e3':b1=0:=by exact om);rw[if_pos (.inl e3')] at h2
     cbv;exact⟨zE om om,(i+1,(i+1),b2),⟨om,h2,(by grind),oM⟩,om,wkZ⟩
    (have e3':¬b1=0:=by exact om);obtain⟨m',hm',hv',idx'⟩:=hin b1 h3 e3'
    have cx:=cc m m' hmem hm';rw[hv'] at h2;generalize wX m.v.q m'.v.q=x at *;cbv;refine⟨zE om om,idx' ?_⟩;cbv;refine dA cx ?_;cbv;refine zG (λe5=>?_) (λe5=>?_);{rw[if_pos (.inr e5)] at h2;cbv;exact⟨zE om om,(i+1,(i+1),b2),⟨om,h2,(by grind),oM⟩,om,wkZ⟩};{rw[if_neg (λh=>h.elim e3' e5)] at h2;cbv;exact⟨zE om om,(i+1,b1,b2),⟨om,h2,oM,oM⟩,om,wkZ⟩}
  {rw[if_neg e1] at h2;cbv;exact⟨zE om om,(i+1,b1,b2),⟨om,h2,oM,oM⟩,om,wkZ⟩}
 ·(have hi:i=L.length:=by rw[zB] at h5;exact om);rw[hi,vE,hni] at h2
  obtain⟨q1,q2⟩:=Prod.mk.inj h2;subst q1 q2;cbv;exact rA
def A9 (a b:List (Row×Rat))(c:R)(ha:∀ t,t∈a->Fits (2^28) t.2)(hal:a.length<=2^36)(hb:∀ t,t∈b->Fits (2^23) t.2)(hbl:b.length<=32)(hc:c.sz (2^20)):zH 122 [mlv (mR a),mlv (mR b),rv c] (mlv (mR (gZ a b c.q))):=by
 refine sF Tryz.f122 ?_;have hcf:Fits (2^20) c.q:=hc.fits (by decide);have c1:∀ q,Fits (2^23) q->zH 52 [rv (zK q),rv c] (rv (zK (q*c.q))):=λq hq=>by have:=s77 (zK q) c ((z5 hq).mono (by decide)) (hc.mono (by decide));rw[yD] at this;omega
 have c2:∀ (l:List (Row×Rat)) (r:Row) (q:Rat),Mfit (2^30) l->Fits (2^24) q->zH 182 [mlv (mR l),rwv r,rv (zK q)] (mlv (mR (plMq l r q))):=λl r q hl hq=>by have:=NK l r (zK q) hl ((z5 hq).mono (by decide));grind [yD]
 obtain⟨A0,hA0⟩:∃ n:Nat,n=2^28:=⟨_,rfl⟩;obtain⟨L0,hL0⟩:∃ n:Nat,n=2^36:=⟨_,rfl⟩;obtain⟨D0,hD0⟩:∃ n:Nat,n=2^24+1:=⟨_,rfl⟩;rw[<-hA0] at ha;rw[<-hL0] at hal;have hAD:∀ i:Nat,i<=32->A0+i*D0<=2^30:=λi hi=>by grind
 obtain⟨G,hG⟩:∃ G:List (Row×Rat)->List (Row×Rat)->List (Row×Rat),∀ x y,G x y=gZ x y c.q:=⟨_,λ_ _=>rfl⟩;have hn:∀ x,G x []=x:=λx=>by rw[hG];rfl
 have hs:∀ x t r,G x (t::r)=G (plMq x t.1 (t.2*c.q)) r:=λx t r=>by rw[hG,hG];rfl
 rw[<-hG];obtain⟨res,hres⟩:=ex (G a b);rw[hres];clear hG;have hbm:∀ (i:Nat) t,b[i]?=some t->(mR b)[i]?=some ⟨t.1,zK t.2⟩:=λi t h=>by simp[mR,jJ,h]
 have hbl':(mR b).length=b.length:=qL b;cbv;refine zY (σ:=Nat×List (Row×Rat)) (λs=>⟨[(0,mlv (mR s.2)),(1,mlv (mR b)),(5,.ptr 5 0),(7,iV s.1)],[(5,.box [zM c.neg,nat c.num,nat c.den])]⟩)
  (λs=>s.1<=b.length/\G s.2 (b.drop s.1)=res/\(∀ t,t∈s.2->Fits (A0+s.1*D0) t.2)/\s.2.length<=L0+s.1) (λs=>b.length-s.1)
  (0,a) ⟨xO _,hres,by grind,by omega⟩ (wkZ) ?_
 intro st hst;obtain⟨i,acc⟩:=st;obtain⟨h1,h2,h3,h4⟩:=hst;dsimp only at h1 h2 h3 h4;clear hres;cbv;refine zG (λh5=>?_) (λh5=>?_)
 ·(rw[zB,hbl'] at h5;have hlt:i<b.length:=by exact om);obtain⟨t,ht⟩:=yB hlt
  have hm:=hbm i t ht;have hq:=hb t (yE ht);rw[yJ ht,hs] at h2;obtain⟨r,q⟩:=t;dsimp only at h2 hm hq;have d1:=c1 q hq;have d2:=c2 acc r (q*c.q) ⟨by omega,λt ht=>(h3 t ht).mono (hAD i oM)⟩ ((wG hq hcf).mono (by decide));have h3':=Cu (r:=r) ((wG hq hcf).mono (show _<=2^24 by decide)) h3;have h4':=Ct acc r (q*c.q);generalize plMq acc r (q*c.q)=acc' at *;generalize zK (q*c.q)=Y at *;generalize zK q=X at *;clear c1 c2 hs hn;cbv;refine zP 14 (by cbv) ?_;cbv;refine xL hm w5 x6 ?_;cbv;refine xL hm w5 x6 ?_;cbv;refine dA d1 ?_;cbv;refine dA d2 ?_;cbv;exact⟨zE om om,(i+1,acc'),⟨om,h2,λt ht=>(h3' t ht).mono (by grind),(by grind)⟩,om,wkZ⟩
 ·(have hi:i=b.length:=by rw[zB,hbl'] at h5;exact om);rw[hi,vE,hn] at h2
  subst h2;cbv;exact rA
def PB (s:Scp)(v:Int)(hv:-4611686018427387904<=v)(hv2:v<4611686018427387904)(hn:0<=s.q.g.n)(hn2:s.q.g.n<=256):zH 121 [sv s,iV v] (mlv (mR (s.atLeastM v))):=by
 refine sF Tryz.f121 ?_;have c1:=s32 1 (by decide) (by decide);rw[show (((1:Int):Rat))=(1:Rat) by rfl] at c1;have h1:v<s.q.g.n->mR (s.atLeastM v)=[⟨⟨1,v,0,0⟩,zK 1⟩]:=λh=>by unfold Scp.atLeastM;rw[if_pos h];rfl
 have h2:¬v<s.q.g.n->mR (s.atLeastM v)=[⟨⟨5,v-s.q.g.n,0,0⟩,zK 1⟩]:=λh=>by unfold Scp.atLeastM;rw[if_neg h];rfl
 generalize mR (s.atLeastM v)=res at *;generalize zK 1=O1 at *;cbv;refine zG (λe=>?_) (λe=>?_)
 ·rw[h1 e];cbv;refine cA c1 ?_;cbv
  (refine rU ?_;cbv)
  (refine rC ?_;cbv)
  exact zU rfl
 ·rw[h2 e];cbv;refine zP 10 (by cbv) ?_;cbv;refine⟨zE (by exact om) (by exact om),?_⟩;cbv;refine dA c1 ?_;cbv
  (refine rC ?_;cbv)
  exact zU rfl
def M4 (x y:R):mkRat (sgn (x.neg != y.neg) (val x.num*y.d)) (x.d*val y.num)=x.q/y.q:=by rw[i5,R.q,R.q,<-nE,<-nE,<-nE,Rat.inv_divInt,Rat.divInt_mul_divInt];unfold R.n sgn;cases x.neg <;> cases y.neg <;> simp[Rat.divInt_neg',Int.neg_mul,Int.mul_neg]
def G9 {q:Rat}:yG q=0↔q=0:=by grind [yG]
def N0 (x y:R)(hx:x.sz (2^31))(hy:y.sz (2^31))(h0:y.q≠0):zH 181 [rv x,rv y] (.tup [rv (zK (x.q/y.q)),iV 0]):=by
 refine sF Tryz.f181 ?_;have h1:=hx.n;have h2:=hx.d;have h3:=hy.n;have h4:=hy.d;have h7:=pX x.den;have h8:=pX y.den;have hyn:val y.num≠0:=λh=>h0 (by
  (have:y.n=0:=by unfold R.n;rw[h];simp[sgn]);rw[R.q,this];simp)
 have csg:=s35 y oM;have hsg:¬yG y.q=0:=λh=>h0 (G9.1 h);have cux:=JY x.den oM;have cuy:=JY y.den oM;have cm:=s99 (jX x.den) y.num oM oM;have hml:=jY (jX x.den) y.num;rw[bZ] at cm hml;have cn:=s99 x.num (jX y.den) oM oM;have hnl:=jY x.num (jX y.den);rw[bZ] at cn hnl;have cq:=Cc (x.neg != y.neg) (zL (val x.num*y.d)) (zL (x.d*val y.num)) oM oM (by rw[zQ];exact Z0 x.d_ne hyn);rw[zQ,zQ,M4] at cq;have hb:(x.neg != y.neg)=!decide (x.neg=y.neg):=by grind
 clear hml hnl hx hy h0;generalize zK (x.q/y.q)=W at *;generalize yG y.q=sg at *;generalize zL (x.d*val y.num)=M at *;generalize zL (val x.num*y.d)=P at *;generalize jX x.den=ux at *;generalize jX y.den=uy at *;obtain⟨a,b,c⟩:=x;obtain⟨a',b',c'⟩:=y;simp only at *;generalize (a != a')=nb at *;cbv;refine cA csg ?_;cbv;refine yA hsg ?_;cbv;refine zP 18 (by cbv) ?_;cbv;refine dA cuy ?_;cbv;refine dA cn ?_;cbv;refine dA cux ?_;cbv;refine dA cm ?_;cbv;refine wK (by exact⟨vW hb,lR,lR,trivial⟩) cq rfl ?_;cbv;exact rA
def PA (s:Scp)(v:Int)(hs:Lsz (2^20) s.lems)(hv:-4611686018427387904<=v)(hv2:v<4611686018427387904)(hn:0<=s.q.g.n)(hn2:s.q.g.n<=256):zH 120 [sv s,iV v] (.tup [mlv (mR ((s.atMostM v).getD [])),zM ((s.atMostM v).isSome)]):=by
 refine sF Tryz.f120 ?_;have c1:=s32 1 (by decide) (by decide);rw[show (((1:Int):Rat))=(1:Rat) by rfl] at c1;have cb:=Xo s (v-s.q.g.n) hs;have hbs:=λk h h0=>aV (s:=s) (unit:=v-s.q.g.n) (k:=k) h h0;have hss:=hs.sz;have hva:∀ k m,s.lems[k-1]?=some m->wO s.lems k=m.v.q:=λk m h=>by unfold wO;rw[h];rfl
 have h1:v<s.q.g.n->s.atMostM v=some [(⟨2,v,0,0⟩,1)]:=λh=>by unfold Scp.atMostM;rw[if_pos h]
 have h2:¬v<s.q.g.n->(s.best (v-s.q.g.n)).1=0\/(s.best (v-s.q.g.n)).2=0->s.atMostM v=none:=λh h'=>by unfold Scp.atMostM;rw[if_neg h,if_pos h']
 have h3:¬v<s.q.g.n->¬((s.best (v-s.q.g.n)).1=0\/(s.best (v-s.q.g.n)).2=0)->s.atMostM v=some (upM (v-s.q.g.n) (s.best (v-s.q.g.n)).1 (s.best (v-s.q.g.n)).2 (wO s.lems (s.best (v-s.q.g.n)).1) (wO s.lems (s.best (v-s.q.g.n)).2)):=λh h'=>by unfold Scp.atMostM;rw[if_neg h,if_neg h']
 generalize s.atMostM v=o at *;generalize s.best (v-s.q.g.n)=B at *;obtain⟨b1,b2⟩:=B;dsimp only at h2 h3 hbs cb;have hll:=hs.len;obtain⟨⟨⟨gn,us,os⟩,⟨lo,hi,rows⟩,⟨ts,c1',c2',c3'⟩⟩,path,L⟩:=s;dsimp only at *;obtain⟨res,hres⟩:=ex (mR (o.getD []));obtain⟨bb,hbb⟩:=ex o.isSome;rw[hres,hbb];have r1:v<gn->res=[⟨⟨2,v,0,0⟩,zK 1⟩]/\bb=true:=λh=>by rw[<-hres,<-hbb,h1 h];exact⟨rfl,rfl⟩
 have r2:¬v<gn->b1=0\/b2=0->res=[]/\bb=false:=λh h'=>by rw[<-hres,<-hbb,h2 h h'];exact⟨rfl,rfl⟩
 have r3:¬v<gn->¬(b1=0\/b2=0)->∀ m1 m2,L[b1-1]?=some m1->L[b2-1]?=some m2->res=mR (upM (v-gn) b1 b2 m1.v.q m2.v.q)/\bb=true:=λh h' m1 m2 g1 g2=>by rw[<-hres,<-hbb,h3 h h',hva b1 m1 g1,hva b2 m2 g2];exact⟨rfl,rfl⟩
 clear h1 h2 h3 hres hbb hva hs;obtain⟨O1,hO1⟩:=ex (zK 1);rw[hO1] at c1 r1;cbv;refine cA c1 ?_;cbv;refine zG (λe=>?_) (λe=>?_)
 ·obtain⟨q1,q2⟩:=r1 e;subst q1 q2;cbv
  (refine rU ?_;cbv)
  (refine rC ?_;cbv)
  exact⟨zU rfl,yN rfl,trivial⟩
 cbv;refine⟨zE (by exact om) (by exact om),?_⟩;cbv;refine cA cb ?_;cbv;refine zX (λe1=>?_) (λe1=>?_);{obtain⟨q1,q2⟩:=r2 e (.inl (by exact om));subst q1 q2;cbv;exact rA};cbv;refine zG (λe2=>?_) (λe2=>?_);{obtain⟨q1,q2⟩:=r2 e (.inr (by exact om));subst q1 q2;cbv;exact rA};have e1':b1≠0:=by exact om
 have e2':b2≠0:=by exact om
 obtain⟨m1,g1,_⟩:=hbs b1 (.inl rfl) e1';obtain⟨m2,g2,_⟩:=hbs b2 (.inr rfl) e2';have r3':=r3 e oM m1 m2 g1 g2;have z1:=hss m1 (yE g1);have z2:=hss m2 (yE g2);have l1:=(w8.1 g1).1;have l2:=(w8.1 g2).1;have i1:∀ {K:List PV->Prop},K (lc m1)->IdxOk 6 (λ_=>enc lc L) (λ_=>(b1:Int)-1) K:=λhK=>u9 g1 oM kC j7 hK;have i2:∀ {K:List PV->Prop},K (lc m2)->IdxOk 6 (λ_=>enc lc L) (λ_=>(b2:Int)-1) K:=λhK=>u9 g2 oM kC j7 hK;have csl:=s35 m1.v (by have:=z1.n;omega);have csu:=s35 m2.v (by have:=z2.n;omega);have cdf:=s93 m2.v m1.v (z2.mono (by decide)) (z1.mono (by decide));have fu:=z2.fits (by decide);have fd:=sQ fu (z1.fits (by decide));have cdv:m2.v.q-m1.v.q≠0->zH 181 [rv O1,rv (zK (m2.v.q-m1.v.q))] (.tup [rv (zK (1/(m2.v.q-m1.v.q))),iV 0]):=λh=>by have:=N0 (zK 1) (zK (m2.v.q-m1.v.q)) ((z5 fits_one).mono (by decide)) ((z5 fd).mono (by decide)) (by rw[yD];exact h);rw[yD,yD,hO1] at this;exact this
 have fq:Fits (2^22) (1/(m2.v.q-m1.v.q)):=by rw[i5];exact (wG fits_one (Wf fd)).mono (by decide)
 have cmu:=s77 (zK (1/(m2.v.q-m1.v.q))) m2.v ((z5 fq).mono (by decide)) (z2.mono (by decide));rw[yD] at cmu;have hne:¬yG m2.v.q<=0->¬0<=yG m1.v.q->m2.v.q-m1.v.q≠0:=λh h'=>by
  (have hu:0<m2.v.q:=by unfold yG at h;split at h <;> (try split at h) <;> grind);have hl:m1.v.q<0:=by unfold yG at h';split at h' <;> (try split at h') <;> grind
  grind
 have ra:yG m2.v.q<=0->res=[⟨⟨10,v-gn,0,b2⟩,O1⟩]:=λh=>by rw[r3'.1,<-hO1];unfold upM;rw[if_pos h];rfl
 have rb:¬yG m2.v.q<=0->0<=yG m1.v.q->res=[⟨⟨8,v-gn,b1,0⟩,O1⟩,⟨⟨12,v-gn,0,b2⟩,O1⟩]:=λh h'=>by rw[r3'.1,<-hO1];unfold upM;rw[if_neg h,if_pos h'];rfl
 have rcc:¬yG m2.v.q<=0->¬0<=yG m1.v.q->res=[⟨⟨12,v-gn,0,b2⟩,zK (1/(m2.v.q-m1.v.q)*m2.v.q)⟩,⟨⟨13,v-gn,b1,b2⟩,zK (1/(m2.v.q-m1.v.q))⟩]:=λh h'=>by rw[r3'.1];unfold upM;rw[if_neg h,if_neg h'];rfl
 obtain⟨_,q2⟩:=r3';subst q2;have cdv':=λh h'=>cdv (hne h h');clear cdv hne fq fd fu z1 z2 r1 r2 r3 cb hbs c1;generalize yG m2.v.q=su at *;generalize yG m1.v.q=sl at *;generalize zK (1/(m2.v.q-m1.v.q)*m2.v.q)=M at *;generalize zK (1/(m2.v.q-m1.v.q))=Q at *;generalize zK (m2.v.q-m1.v.q)=D at *;cbv;refine uB 17 [(16,10)] (by cbv) (by cbv) (by cbv) ?_;cbv;refine⟨zE (by exact om) (by exact om),i1 ?_⟩;cbv;refine⟨zE (by exact om) (by exact om),i2 ?_⟩;cbv;refine cA csu ?_;cbv;refine zG (λe3=>?_) (λe3=>?_)
 ·have q1:=ra e3;subst q1;cbv
  (refine rU ?_;cbv)
  (refine rC ?_;cbv)
  exact⟨zU rfl,yN rfl,trivial⟩
 cbv;refine cA csl ?_;cbv;refine zG (λe4=>?_) (λe4=>?_)
 ·have q1:=rb e3 e4;subst q1;cbv
  (refine rU ?_;cbv)
  (refine rC ?_;cbv)
  exact⟨zU rfl,yN rfl,trivial⟩
 have q1:=rcc e3 e4;have cd:=cdv' e3 e4;subst q1;cbv;refine uB 10 [(9,12)] (by cbv) (by cbv) (by cbv) ?_;cbv;refine dA cdf ?_;cbv;refine dA cd ?_;cbv;refine zP 13 (by cbv) ?_;cbv;refine dA cmu ?_;cbv
 (refine rU ?_;cbv)
 (refine rC ?_;cbv)
 exact⟨zU rfl,yN rfl,trivial⟩
end Go.Proofs.YtboocdbmnfjomaaGreat
