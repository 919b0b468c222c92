/- A part of the proof: RwD. -/
import Derived.Test.YtaeaffgjdcigoaaGreatC23
set_option linter.all false
namespace Go.Proofs.YtaeaffgjdcigoaaGreat
open Go
set_option maxRecDepth 100000
set_option maxHeartbeats 2000000
def unF (s:Scp) (r:Row) (p v:F) (l u:Option Rat):Option F :=
 if r.k=5 then (if r.plain=true then some v else none)
 else if r.k=6 then (if r.plain=true then some (v.sub p) else none)
 else if r.k=7 then (if onB s r (l.getD 0) l.isSome=true then some (p.add F.zero) else none)
 else if r.k=8 then (if onB s r (l.getD 0) l.isSome=true then some (p.sub v) else none)
 else if r.k=9 then (if offB s r (u.getD 0) u.isSome=true then some (p.scale (-1)) else none)
 else if r.k=10 then (if offB s r (u.getD 0) u.isSome=true then some (v.scale (-1)) else none)
 else if r.k=11 then (if l.isSome=true/\r.hi=0 then some (p.sub (F.num (l.getD 0))) else none)
 else if r.k=12 then (if u.isSome=true/\r.lo=0 then some ((F.num (u.getD 0)).sub p) else none)
 else if r.k=13 then (if l.isSome=true/\u.isSome=true/\z4 (l.getD 0)<0/\0<z4 (u.getD 0) then some (((p.sub (F.num (l.getD 0))).scale (u.getD 0)).sub (v.scale (u.getD 0-l.getD 0))) else none)
 else none
def Scp.fUn (s:Scp) (r:Row):Option F :=
 if 0<=r.i/\r.i<s.q.g.us.length then
  match s.q.g.us[r.i.toNat]? with
  |some p=>unF s r p.f (F.var (s.q.g.n+r.i)) (s.lem r.lo r.i false) (s.lem r.hi r.i true)| none=>none
 else none
theorem zBX {s:Scp}{k:Nat}(hs:Lsz k s.lems)(hk:1<=k)(n unit:Int)(up:Bool):Fits k ((s.lem n unit up).getD 0):=by unfold Scp.lem;split;{split;{rename_i m hm;split;{exact (hs.sz m (yA hm)).fits hk};{exact uK hk}};{exact uK hk}};{exact uK hk}
theorem zZ9 (s:Scp)(r:Row)(hs:s.sz (2^28))(hn1:1<=s.q.g.n)(hn2:s.q.g.n<=256)(hul:s.q.g.us.length<=1024)(hpl:∀ a,a∈s.q.g.us->a.ts.length<=2000):zE 273 [sv s,rwv r] (.tup [fv ((s.fUn r).getD F.zero),.bool (fun _=>(s.fUn r).isSome)]):=by
 refine sF Tryz.f273 ?_;have hno:¬(0<=r.i/\r.i<s.q.g.us.length)->s.fUn r=none:=fun h=>if_neg h;have hyes:∀ p,0<=r.i->r.i<s.q.g.us.length->s.q.g.us[r.i.toNat]?=some p->s.fUn r=unF s r p.f (F.var (s.q.g.n+r.i)) (s.lem r.lo r.i false) (s.lem r.hi r.i true):=fun p h1 h2 h3=>by unfold Scp.fUn;rw[if_pos ⟨h1,h2⟩,h3]
 obtain⟨o,ho⟩:∃ o,o=s.fUn r:=⟨_,rfl⟩;rw[<-ho] at hno hyes ⊢;obtain⟨W,hW⟩:∃ W,W=fA (o.getD F.zero):=⟨_,rfl⟩;obtain⟨b,hb⟩:∃ b,b=o.isSome:=⟨_,rfl⟩;rw[show fv (o.getD F.zero)=av W by rw[hW],<-hb];have fin2:∀ f,o=some f->W=fA f/\b=true:=fun f h=>by rw[h] at hW hb;exact⟨hW,hb⟩
 have fin1:o=none->W=⟨[],R0⟩/\b=false:=fun h=>by rw[h] at hW hb;exact⟨hW.trans uS,hb⟩
 clear hW hb ho;obtain⟨wt,w1,w2,w3⟩:=W;have fin3:o=none->wt=[]/\w1=false/\w2=[]/\w3=[]/\b=false:=fun h=>by obtain⟨h1,h2⟩:=fin1 h;simp only[A.mk.injEq,R.mk.injEq] at h1;exact⟨h1.1,h1.2.1,h1.2.2.1,h1.2.2.2,h2⟩
 clear fin1;by_cases hin:0<=r.i/\r.i<s.q.g.us.length
 rotate_left
 ·(have hnn:=hno hin;have hin':r.i<0\/(0<=r.i/\(s.q.g.us.length:Int)<=r.i):=by omega);obtain⟨⟨⟨gn,us,os⟩,⟨lo,hi,rows⟩,⟨ts,c1,c2,c3⟩⟩,path,lems⟩:=s
  obtain⟨k,i,rlo,rhi⟩:=r;simp only at hin';clear hno hyes fin2 hin;obtain⟨g0,g1,g2,g3,g4⟩:=fin3 hnn;subst g0 g1 g2 g3 g4;cbv;refine zQ (fun e1=>?_) (fun e1=>?_)
  ·cbv
   (refine rC ?_;cbv)
   exact okA
  ·cbv;refine w7 (by dsimp only at e1 ⊢;rw[zA];(try dsimp only [zF] at *);omega) ?_;cbv
   (refine rC ?_;cbv)
   exact okA
 obtain⟨hi0,hi1⟩:=hin;obtain⟨p,hp⟩:∃ p,s.q.g.us[r.i.toNat]?=some p:=zT oM;have ho:=hyes p hi0 hi1 hp;clear hno hyes;have hps:=hs.q.g.us.sz p (yA hp);have hpn:=hpl p (yA hp);have cv:=zIV (s.q.g.n+r.i);have cl:=zSQ s r.lo r.i false (hs.lems.mono (by decide));have cu:=zSQ s r.hi r.i true (hs.lems.mono (by decide));have fl:=zBX hs.lems (by decide) r.lo r.i false;have fu:=zBX hs.lems (by decide) r.hi r.i true;have hsp:Dsz (2^36) s.path:=hs.path.mono (by decide);generalize s.lem r.lo r.i false=l at *
 generalize s.lem r.hi r.i true=u at *
 have fV:(F.var (s.q.g.n+r.i)).fit (2^28):=(pG _).mono (by decide);have con:=yAA s r (fA (F.var (s.q.g.n+r.i))) p (zJ (l.getD 0)) (zJ (u.getD 0)) l.isSome u.isSome hsp (xP (zU fl).n (by decide));have coff:=zYH s r (fA (F.var (s.q.g.n+r.i))) p (zJ (l.getD 0)) (zJ (u.getD 0)) l.isSome u.isSome hsp (xP (zU fu).n (by decide));rw[z6] at con coff;have cpl:=zJT r;have fp:p.f.fit (2^28):=hps.fit (by decide);have lp:p.f.ts.length<=2000:=by show (tq p.ts).length<=2000;unfold tq;rw[xA];exact hpn
 unfold unF at ho;generalize onB s r (l.getD 0) l.isSome=on at *
 generalize offB s r (u.getD 0) u.isSome=off at *
 generalize r.plain=pl at *
 have fA0:fv (F.var (s.q.g.n+r.i))=av (fA (F.var (s.q.g.n+r.i))):=rfl;rw[fA0] at cv;have fv1:(fA (F.var (s.q.g.n+r.i))).f=F.var (s.q.g.n+r.i):=kY _;have sV:(fA (F.var (s.q.g.n+r.i))).sz (2^28):=fV.fA;have lv1:(F.var (s.q.g.n+r.i)).ts.length=1:=rfl;generalize hVV:F.var (s.q.g.n+r.i)=V at *
 obtain⟨V1,hV1⟩:∃ V1,fA V=V1:=⟨_,rfl⟩;rw[hV1] at cv con coff fv1 sV;have idx:∀ {K:List PV->Prop},K (ac p)->IdxOk 4 (fun _=>enc ac s.q.g.us) (fun _=>r.i) K:=fun hK=>xU (l:=s.q.g.us) r.i.toNat oM oM gK bK (fun m' hm'=>by rw[hp] at hm';cases hm';exact hK);obtain⟨⟨⟨gn,us,os⟩,⟨lo,hi,rows⟩,⟨ts,c1,c2,c3⟩⟩,path,lems⟩:=s;obtain⟨k,i,rlo,rhi⟩:=r;simp only at hn1 hn2 hul hi0 hi1 idx ho;have hk:k=5\/k=6\/k=7\/k=8\/k=9\/k=10\/k=11\/k=12\/k=13\/(k<=4\/14<=k):=by omega
 clear hs hpl hVV fA0 hp;have hst:∀ (Q:Prop),Q->Q:=fun _ h=>h;generalize hlq:l.getD 0=lq at *
 generalize huq:u.getD 0=uq at *
 generalize hlb:l.isSome=lb at *
 generalize hub:u.isSome=ub at *
 generalize hLR:zJ lq=L at *
 generalize hUR:zJ uq=U at *
 cbv;refine z9 (by dsimp only;omega) ?_;cbv;refine yB (by dsimp only;rw[zA];omega) ?_;cbv;refine zEL 16 [2,3,4,6] [2,3,4,6] rfl (by cbv) (by cbv) ?_;cbv;refine⟨zD om om,?_⟩;cbv;refine dA cv ?_;cbv;refine idx ?_;cbv;refine tE [2,3,4,7,40,42,44] [2,3,4,7] rfl rfl okA (cl) rfl ?_;cbv;refine tE [2,3,4,7,51,53,55] [2,3,4,7] rfl rfl okA (cu) rfl ?_;cbv;clear cl cu cv idx;rcases hk with rfl|rfl|rfl|rfl|rfl|rfl|rfl|rfl|rfl|hk
 ·as_aux_lemma =>
   (rw[if_pos rfl] at ho;have ho2:=fun h:pl=true=>fin2 V (by rw[ho,if_pos h]);have ho3:pl=false->o=none:=fun h=>by rw[ho,h];rfl);clear ho fin2
   refine uZ (by simp) ?_;cbv;refine cA cpl ?_;cbv;refine zP (fun e=>?_) (fun e=>?_)
   ·cbv;obtain⟨g1,g2⟩:=ho2 e;cases g1.trans hV1;subst g2
    (refine rC ?_;cbv)
    exact okA
   ·cbv;refine z9 (by simp) ?_;cbv;refine z9 (by simp) ?_;cbv;refine z9 (by simp) ?_;cbv;refine z9 (by simp) ?_;cbv;refine z9 (by simp) ?_;cbv;refine z9 (by simp) ?_;cbv;refine z9 (by simp) ?_;cbv;refine z9 (by simp) ?_;cbv;obtain⟨g0,g1,g2,g3,g4⟩:=fin3 (ho3 e);subst g0 g1 g2 g3 g4
    (refine rC ?_;cbv)
    exact okA
 ·as_aux_lemma =>
   (rw[if_neg (by decide),if_pos rfl] at ho;have cs:=aP V1 p (sV.mono (by decide)) (hps.mono (by decide));rw[fv1] at cs;dsimp only [fv] at cs;have ho2:=fun h:pl=true=>fin2 (V.sub p.f) (by rw[ho,if_pos h]);have ho3:pl=false->o=none:=fun h=>by rw[ho,h];rfl);clear ho fin2
   generalize fA (V.sub p.f)=X at *
   refine z9 (by simp) ?_;cbv;refine uZ (by simp) ?_;cbv;refine cA cpl ?_;cbv;refine zP (fun e=>?_) (fun e=>?_)
   ·cbv;obtain⟨g1,g2⟩:=ho2 e;cases g1;subst g2;refine cA cs ?_;cbv
    (refine rC ?_;cbv)
    exact okA
   ·cbv;refine z9 (by simp) ?_;cbv;refine z9 (by simp) ?_;cbv;refine z9 (by simp) ?_;cbv;refine z9 (by simp) ?_;cbv;refine z9 (by simp) ?_;cbv;refine z9 (by simp) ?_;cbv;refine z9 (by simp) ?_;cbv;obtain⟨g0,g1,g2,g3,g4⟩:=fin3 (ho3 e);subst g0 g1 g2 g3 g4
    (refine rC ?_;cbv)
    exact okA
 ·as_aux_lemma =>
   (rw[if_neg (by decide),if_neg (by decide),if_pos rfl] at ho;have cs:=zMZ p ⟨[],R0⟩ (hps.mono (by decide)) ⟨⟨by decide,fun _ h=>absurd h (by simp)⟩,⟨by decide,by decide⟩⟩;rw[show A.f ⟨[],R0⟩=F.zero by rw[<-uS,kY]] at cs;dsimp only [fv] at cs;have ho2:=fun h:on=true=>fin2 (p.f.add F.zero) (by rw[ho,if_pos h]);have ho3:on=false->o=none:=fun h=>by rw[ho,h];rfl);clear ho fin2
   generalize fA (p.f.add F.zero)=X at *
   refine z9 (by simp) ?_;cbv;refine z9 (by simp) ?_;cbv;refine uZ (by simp) ?_;cbv;refine cA con ?_;cbv;refine zP (fun e=>?_) (fun e=>?_)
   ·cbv;obtain⟨g1,g2⟩:=ho2 e;cases g1;subst g2;refine yP rfl okA cs rfl ?_;cbv
    (refine rC ?_;cbv)
    exact okA
   ·cbv;refine z9 (by simp) ?_;cbv;refine z9 (by simp) ?_;cbv;refine z9 (by simp) ?_;cbv;refine z9 (by simp) ?_;cbv;refine z9 (by simp) ?_;cbv;refine z9 (by simp) ?_;cbv;obtain⟨g0,g1,g2,g3,g4⟩:=fin3 (ho3 e);subst g0 g1 g2 g3 g4
    (refine rC ?_;cbv)
    exact okA
 ·as_aux_lemma =>
   (rw[if_neg (by decide),if_neg (by decide),if_neg (by decide),if_pos rfl] at ho;have cs:=aP p V1 (hps.mono (by decide)) (sV.mono (by decide));rw[fv1] at cs;dsimp only [fv] at cs;have ho2:=fun h:on=true=>fin2 (p.f.sub V) (by rw[ho,if_pos h]);have ho3:on=false->o=none:=fun h=>by rw[ho,h];rfl);clear ho fin2
   generalize fA (p.f.sub V)=X at *
   refine z9 (by simp) ?_;cbv;refine z9 (by simp) ?_;cbv;refine z9 (by simp) ?_;cbv;refine uZ (by simp) ?_;cbv;refine cA con ?_;cbv;refine zP (fun e=>?_) (fun e=>?_)
   ·cbv;obtain⟨g1,g2⟩:=ho2 e;cases g1;subst g2;refine cA cs ?_;cbv
    (refine rC ?_;cbv)
    exact okA
   ·cbv;refine z9 (by simp) ?_;cbv;refine z9 (by simp) ?_;cbv;refine z9 (by simp) ?_;cbv;refine z9 (by simp) ?_;cbv;refine z9 (by simp) ?_;cbv;obtain⟨g0,g1,g2,g3,g4⟩:=fin3 (ho3 e);subst g0 g1 g2 g3 g4
    (refine rC ?_;cbv)
    exact okA
 ·as_aux_lemma =>
   (rw[if_neg (by decide),if_neg (by decide),if_neg (by decide),if_neg (by decide),if_pos rfl] at ho;have cs:=zD0 p (hps.mono (by decide));dsimp only [fv] at cs;have ho2:=fun h:off=true=>fin2 (p.f.scale (-1)) (by rw[ho,if_pos h]);have ho3:off=false->o=none:=fun h=>by rw[ho,h];rfl);clear ho fin2
   generalize fA (p.f.scale (-1))=X at *
   refine z9 (by simp) ?_;cbv;refine z9 (by simp) ?_;cbv;refine z9 (by simp) ?_;cbv;refine z9 (by simp) ?_;cbv;refine uZ (by simp) ?_;cbv;refine cA coff ?_;cbv;refine zP (fun e=>?_) (fun e=>?_)
   ·cbv;obtain⟨g1,g2⟩:=ho2 e;cases g1;subst g2;refine cA cs ?_;cbv
    (refine rC ?_;cbv)
    exact okA
   ·cbv;refine z9 (by simp) ?_;cbv;refine z9 (by simp) ?_;cbv;refine z9 (by simp) ?_;cbv;refine z9 (by simp) ?_;cbv;obtain⟨g0,g1,g2,g3,g4⟩:=fin3 (ho3 e);subst g0 g1 g2 g3 g4
    (refine rC ?_;cbv)
    exact okA
 ·as_aux_lemma =>
   (rw[if_neg (by decide),if_neg (by decide),if_neg (by decide),if_neg (by decide),if_neg (by decide),if_pos rfl] at ho;have cs:=zD0 V1 (sV.mono (by decide));rw[fv1] at cs;dsimp only [fv] at cs;have ho2:=fun h:off=true=>fin2 (V.scale (-1)) (by rw[ho,if_pos h]);have ho3:off=false->o=none:=fun h=>by rw[ho,h];rfl);clear ho fin2
   generalize fA (V.scale (-1))=X at *
   refine z9 (by simp) ?_;cbv;refine z9 (by simp) ?_;cbv;refine z9 (by simp) ?_;cbv;refine z9 (by simp) ?_;cbv;refine z9 (by simp) ?_;cbv;refine uZ (by simp) ?_;cbv;refine cA coff ?_;cbv;refine zP (fun e=>?_) (fun e=>?_)
   ·cbv;obtain⟨g1,g2⟩:=ho2 e;cases g1;subst g2;refine cA cs ?_;cbv
    (refine rC ?_;cbv)
    exact okA
   ·cbv;refine z9 (by simp) ?_;cbv;refine z9 (by simp) ?_;cbv;refine z9 (by simp) ?_;cbv;obtain⟨g0,g1,g2,g3,g4⟩:=fin3 (ho3 e);subst g0 g1 g2 g3 g4
    (refine rC ?_;cbv)
    exact okA
 ·as_aux_lemma =>
   (rw[if_neg (by decide),if_neg (by decide),if_neg (by decide),if_neg (by decide),if_neg (by decide),if_neg (by decide),if_pos rfl] at ho;have cn:=zBQ L (by rw[<-hLR];exact (zU fl).mono (by decide));have e0:L.q=lq:=by rw[<-hLR,z6]);rw[e0] at cn
   (have cs:=aP p (fA (F.num lq)) (hps.mono (by decide)) ((dY fl).fA.mono (by decide));rw[kY] at cs;have ho2:=fun (h:lb=true) (h2:rhi=0)=>fin2 (p.f.sub (F.num lq)) (by rw[ho,if_pos ⟨h,h2⟩]);have ho3:lb=false->o=none:=fun h=>by rw[ho,if_neg (fun g=>absurd (g.1.symm.trans h) (by decide))]);have ho4:¬rhi=0->o=none:=fun h=>by rw[ho,if_neg (fun g=>h g.2)]
   clear ho fin2;dsimp only [fv] at cs cn;generalize fA (p.f.sub (F.num lq))=X at *
   generalize fA (F.num lq)=Y at *
   refine z9 (by simp) ?_;cbv;refine z9 (by simp) ?_;cbv;refine z9 (by simp) ?_;cbv;refine z9 (by simp) ?_;cbv;refine z9 (by simp) ?_;cbv;refine z9 (by simp) ?_;cbv;refine uZ (by simp) ?_;cbv;refine z7 (fun e=>?_) (fun e=>?_)
   ·rw[e];cbv;refine zG (fun e2=>?_) (fun e2=>?_)
    ·cbv;obtain⟨g1,g2⟩:=ho2 e e2;cases g1;subst g2;refine zN 6 (by cbv) ?_;cbv;refine dA cn ?_;cbv;refine dA cs ?_;cbv
     (refine rC ?_;cbv)
     exact okA
    ·cbv;refine z9 (by simp) ?_;cbv;refine z9 (by simp) ?_;cbv;obtain⟨g0,g1,g2,g3,g4⟩:=fin3 (ho4 e2);subst g0 g1 g2 g3 g4
     (refine rC ?_;cbv)
     exact okA
   ·rw[e];cbv;refine z9 (by simp) ?_;cbv;refine z9 (by simp) ?_;cbv;obtain⟨g0,g1,g2,g3,g4⟩:=fin3 (ho3 e);subst g0 g1 g2 g3 g4
    (refine rC ?_;cbv)
    exact okA
 ·as_aux_lemma =>
   (rw[if_neg (by decide),if_neg (by decide),if_neg (by decide),if_neg (by decide),if_neg (by decide),if_neg (by decide),if_neg (by decide),if_pos rfl] at ho;have cn:=zBQ U (by rw[<-hUR];exact (zU fu).mono (by decide));have e0:U.q=uq:=by rw[<-hUR,z6]);rw[e0] at cn
   (have cs:=aP (fA (F.num uq)) p ((dY fu).fA.mono (by decide)) (hps.mono (by decide));rw[kY] at cs;have ho2:=fun (h:ub=true) (h2:rlo=0)=>fin2 ((F.num uq).sub p.f) (by rw[ho,if_pos ⟨h,h2⟩]);have ho3:ub=false->o=none:=fun h=>by rw[ho,if_neg (fun g=>absurd (g.1.symm.trans h) (by decide))]);have ho4:¬rlo=0->o=none:=fun h=>by rw[ho,if_neg (fun g=>h g.2)]
   clear ho fin2;dsimp only [fv] at cs cn;generalize fA ((F.num uq).sub p.f)=X at *
   generalize fA (F.num uq)=Y at *
   refine z9 (by simp) ?_;cbv;refine z9 (by simp) ?_;cbv;refine z9 (by simp) ?_;cbv;refine z9 (by simp) ?_;cbv;refine z9 (by simp) ?_;cbv;refine z9 (by simp) ?_;cbv;refine z9 (by simp) ?_;cbv;refine uZ (by simp) ?_;cbv;refine z7 (fun e=>?_) (fun e=>?_)
   ·rw[e];cbv;refine zG (fun e2=>?_) (fun e2=>?_)
    ·cbv;obtain⟨g1,g2⟩:=ho2 e e2;cases g1;subst g2;refine zN 6 (by cbv) ?_;cbv;refine dA cn ?_;cbv;refine dA cs ?_;cbv
     (refine rC ?_;cbv)
     exact okA
    ·cbv;refine z9 (by simp) ?_;cbv;obtain⟨g0,g1,g2,g3,g4⟩:=fin3 (ho4 e2);subst g0 g1 g2 g3 g4
     (refine rC ?_;cbv)
     exact okA
   ·rw[e];cbv;refine z9 (by simp) ?_;cbv;obtain⟨g0,g1,g2,g3,g4⟩:=fin3 (ho3 e);subst g0 g1 g2 g3 g4
    (refine rC ?_;cbv)
    exact okA
 ·as_aux_lemma =>
   (rw[if_neg (by decide),if_neg (by decide),if_neg (by decide),if_neg (by decide),if_neg (by decide),if_neg (by decide),if_neg (by decide),if_neg (by decide),if_pos rfl] at ho;have cn:=zBQ L (by rw[<-hLR];exact (zU fl).mono (by decide));have e0:L.q=lq:=by rw[<-hLR,z6]);have e0':U.q=uq:=by rw[<-hUR,z6]
   (have sL:L.sz (2^28):=by rw[<-hLR];exact zU fl);have sU:U.sz (2^28):=by rw[<-hUR];exact zU fu
   (have csl:=s86 L (by have:=sL.n;omega);have csu:=s86 U (by have:=sU.n;omega);have cd:=s176 U L (sU.mono (by decide)) (sL.mono (by decide));rw[e0] at cn csl cd;rw[e0'] at csu cd;have cs:=aP p (fA (F.num lq)) (hps.mono (by decide)) ((dY fl).fA.mono (by decide));rw[kY] at cs;have f1:(p.f.sub (F.num lq)).fit (2^29+2):=(zHJ fp (dY fl) (by show p.f.ts.length+0<2^38;omega)).mono (by decide);have l1':=zU5 p.f (F.num lq);have cc:=tX (fA (p.f.sub (F.num lq))) U (f1.fA.mono (by decide)) (sU.mono (by decide));rw[kY,e0'] at cc;have f2:((p.f.sub (F.num lq)).scale uq).fit (2^31):=(nD f1 fu (by decide)).mono (by decide);have l2':=zFX (p.f.sub (F.num lq)) uq;have f3:=uC fu fl;have c4:=tX V1 (zJ (uq-lq)) (sV.mono (by decide)) ((zU f3).mono (by decide));rw[fv1,z6] at c4;have f5:(V.scale (uq-lq)).fit (2^31):=(nD (by rw[<-fv1];exact sV.fit (by decide)) f3 (by decide)).mono (by decide);have c5:=aP (fA ((p.f.sub (F.num lq)).scale uq)) (fA (V.scale (uq-lq))) (f2.fA.mono (by decide)) (f5.fA.mono (by decide));rw[kY,kY] at c5;have ho2:=fun (h:lb=true) (h2:ub=true) (h3:z4 lq<0) (h4:0<z4 uq)=>fin2 (((p.f.sub (F.num lq)).scale uq).sub (V.scale (uq-lq))) (by rw[ho,if_pos ⟨h,h2,h3,h4⟩]);have ho3:lb=false->o=none:=fun h=>by rw[ho,if_neg (fun g=>absurd (g.1.symm.trans h) (by decide))]);have ho4:ub=false->o=none:=fun h=>by rw[ho,if_neg (fun g=>absurd (g.2.1.symm.trans h) (by decide))]
   (have ho5:¬z4 lq<0->o=none:=fun h=>by rw[ho,if_neg (fun g=>h g.2.2.1)]);have ho6:¬0<z4 uq->o=none:=fun h=>by rw[ho,if_neg (fun g=>h g.2.2.2)]
   clear ho fin2 f1 f2 f3 f5 l1' l2' e0 e0' sL sU hLR hUR;dsimp only [fv] at cs cn cc c4 c5;generalize z4 lq=sl at *
   generalize z4 uq=su at *
   generalize fA (((p.f.sub (F.num lq)).scale uq).sub (V.scale (uq-lq)))=X at *
   generalize fA ((p.f.sub (F.num lq)).scale uq)=Y at *
   generalize fA (V.scale (uq-lq))=Z at *
   generalize fA (p.f.sub (F.num lq))=T at *
   generalize fA (F.num lq)=M at *
   generalize zJ (uq-lq)=D at *
   refine z9 (by simp) ?_;cbv;refine z9 (by simp) ?_;cbv;refine z9 (by simp) ?_;cbv;refine z9 (by simp) ?_;cbv;refine z9 (by simp) ?_;cbv;refine z9 (by simp) ?_;cbv;refine z9 (by simp) ?_;cbv;refine z9 (by simp) ?_;cbv;refine uZ (by simp) ?_;cbv;refine z7 (fun e=>?_) (fun e=>?_)
   ·rw[e];cbv;refine z7 (fun e1=>?_) (fun e1=>?_)
    ·rw[e1];cbv;refine cA csl ?_;cbv;refine zQ (fun e2=>?_) (fun e2=>?_)
     ·cbv;refine cA csu ?_;cbv;refine zG (fun e3=>?_) (fun e3=>?_)
      ·cbv;obtain⟨g1,g2⟩:=ho2 e e1 e2 e3;cases g1;subst g2;refine jS 10 (by cbv) (by cbv) ?_;cbv;refine dA cn ?_;cbv;refine dA cs ?_;cbv;refine dA cc ?_;cbv;refine zN 10 (by cbv) ?_;cbv;refine dA cd ?_;cbv;refine dA c4 ?_;cbv;refine dA c5 ?_;cbv
       (refine rC ?_;cbv)
       exact okA
      ·cbv;obtain⟨g0,g1,g2,g3,g4⟩:=fin3 (ho6 e3);subst g0 g1 g2 g3 g4
       (refine rC ?_;cbv)
       exact okA
     ·cbv;obtain⟨g0,g1,g2,g3,g4⟩:=fin3 (ho5 e2);subst g0 g1 g2 g3 g4
      (refine rC ?_;cbv)
      exact okA
    ·rw[e1];cbv;obtain⟨g0,g1,g2,g3,g4⟩:=fin3 (ho4 e1);subst g0 g1 g2 g3 g4
     (refine rC ?_;cbv)
     exact okA
   ·rw[e];cbv;obtain⟨g0,g1,g2,g3,g4⟩:=fin3 (ho3 e);subst g0 g1 g2 g3 g4
    (refine rC ?_;cbv)
    exact okA
 ·as_aux_lemma =>
   rw[if_neg oM,if_neg oM,if_neg oM,if_neg oM,if_neg oM,if_neg oM,if_neg oM,if_neg oM,if_neg oM] at ho;refine z9 (by dsimp only;omega) ?_;cbv;refine z9 (by dsimp only;omega) ?_;cbv;refine z9 (by dsimp only;omega) ?_;cbv;refine z9 (by dsimp only;omega) ?_;cbv;refine z9 (by dsimp only;omega) ?_;cbv;refine z9 (by dsimp only;omega) ?_;cbv;refine z9 (by dsimp only;omega) ?_;cbv;refine z9 (by dsimp only;omega) ?_;cbv;refine z9 (by dsimp only;omega) ?_;cbv;obtain⟨g0,g1,g2,g3,g4⟩:=fin3 (ho);subst g0 g1 g2 g3 g4
   (refine rC ?_;cbv)
   exact okA
end Go.Proofs.YtaeaffgjdcigoaaGreat
