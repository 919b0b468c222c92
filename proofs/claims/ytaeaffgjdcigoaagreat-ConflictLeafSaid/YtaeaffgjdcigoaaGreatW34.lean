/- A part of the proof: KcJ, KcK, KcG, KcI, KcL. -/
import Derived.Test.YtaeaffgjdcigoaaGreatW33
import Derived.Test.YtaeaffgjdcigoaaGreatW32
import Derived.Test.YtaeaffgjdcigoaaGreatW21
import Derived.Test.YtaeaffgjdcigoaaGreatW31
set_option linter.all false
namespace Go.Proofs.YtaeaffgjdcigoaaGreat
open Go
set_option maxRecDepth 100000
set_option maxHeartbeats 4000000
abbrev oFL (o:Option (F×List (Row×Rat))):F×List (Row×Rat):=o.getD (F.zero,[])
structure BackOk (s:Scp) (f:F):Prop where
 vd:(fA f).valid s.q.g.vars=true
 sz:(fA f).sz (2^26)
 us:∀ (j:Nat) pa,s.q.g.us[j]?=some pa->fA pa.f=pa/\Cn pa.f.ts/\pa.f.fl (2^20) (2^30)
 st:∃ P:Nat->F×List (Row×Rat)->Prop,P s.q.g.us.length (f,[])/\(∀ j x,P j x->Cn x.1.ts/\(∃ k,x.1.fl k (2^30)/\1<=k/\k<=2^24)/\Mfit (2^30) x.2)/\∀ j x pa y,P (j+1) x->s.q.g.us[j]?=some pa->s.rep1 pa.f j x=some y->P j y
def Ea (s:Scp)(f:F)(hs:Usz s)(hz:s.q.sz (2^20))(hb:BackOk s f):zC 114 [sv s,fv f] (.tup [fv (oFL (s.back f)).1,mlv (mR (oFL (s.back f)).2),zL ((s.back f).isSome)]):=by
 refine sF Tryz.f114 ?_;obtain⟨v1,v2,v3,v4,v5⟩:=nO hs.v;have cv:=iA s.q (hz.mono (by decide));have cvr:=oG s.q.g (hz.g.mono (by decide));have hgv:s.q.g.valid=true:=by have:=hs.v;unfold Qry.valid at this;grind
 rw[hs.v] at cv;rw[if_pos hgv] at cvr;have c7:=FE (fA f) s.q.g.vars (hb.sz.mono (by decide));rw[hb.vd] at c7;obtain⟨P,p1,p2,p3⟩:=hb.st;have cr:∀ (j:Nat) pa x,s.q.g.us[j]?=some pa->P (j+1) x->zC 174 [sv s,fv x.1,mlv (mR x.2),iV j] (.tup [fv (oFL (s.rep1 pa.f j x)).1,mlv (mR (oFL (s.rep1 pa.f j x)).2),zL ((s.rep1 pa.f j x).isSome)]):=λj pa x hp hx=>by obtain⟨a1,a2,a3⟩:=hb.us j pa hp;obtain⟨b1,⟨k,b2,b3,b4⟩,b5⟩:=p2 _ x hx;exact LK s j pa x.1 x.2 hs hp a1 a2 a3 (by decide) b1 b2 b3 b4 b5
 obtain⟨RP,hRP⟩:∃ RP:F->Nat->F×List (Row×Rat)->Option (F×List (Row×Rat)),s.rep1=RP:=⟨_,rfl⟩;rw[hRP] at cr p3;have hBs:∀ (j:Nat) pa x,s.q.g.us[j]?=some pa->s.backG (j+1) x=match RP pa.f j x with
   |none=>none| some y=>s.backG j y:=λj pa x h=>by
  rw[<-hRP,show s.backG (j+1) x=(match s.q.g.us[j]? with
   |none=>none
   |some p=>match s.rep1 p.f j x with
    |none=>none| some y=>s.backG j y) from rfl,h]
 have hB0:∀ x,s.backG 0 x=some x:=λ_=>rfl;obtain⟨O,hO⟩:=ex (s.back f);have hO':s.backG s.q.g.us.length (f,[])=O:=hO;obtain⟨BG,hBG⟩:∃ BG:Nat->F×List (Row×Rat)->Option (F×List (Row×Rat)),s.backG=BG:=⟨_,rfl⟩;rw[hO];rw[hBG] at hBs hB0 hO';obtain⟨FV,hFV⟩:=ex (fA (oFL O).1);obtain⟨ML,hML⟩:=ex (mR (oFL O).2);obtain⟨OB,hOB⟩:=ex O.isSome;simp only[fv] at *;rw[hFV,hML,hOB];have o0:O=none->FV=⟨[],R0⟩/\ML=[]/\OB=false:=λh=>by rw[<-hFV,<-hML,<-hOB,h];exact⟨uU,rfl,rfl⟩
 have o1:∀ y,O=some y->FV=fA y.1/\ML=mR y.2/\OB=true:=λy h=>by grind
 generalize s.q.g.vars=N at *;obtain⟨FA,hFA⟩:=ex (fA f);rw[hFA] at c7 ⊢;obtain⟨⟨⟨gn,us,os⟩,⟨lo,hi',rows⟩,⟨ts',c1',c2',c3'⟩⟩,path,L⟩:=s;dsimp only at *;clear hO hBG hRP hFV hML hOB hgv hs hz hb;cbv;refine zM 13 (by cbv) ?_;cbv;refine dA cv ?_;cbv;refine rZ rfl ?_;cbv;refine dA cvr ?_;cbv;refine dA c7 ?_;cbv;refine dE rfl ?_;cbv;refine⟨zD (by rw[zA];exact om) (by rw[zA];exact om),?_⟩;refine z7 (σ:=Nat×(F×List (Row×Rat))×A×List Mult) (λst=>⟨[(2,.ptr 2 0),(3,.ptr 3 0),(4,.ptr 4 0),(7,mlv st.2.2.2),(9,iV (((st.1:Nat):Int)-1))],[(2,.box (sc ⟨⟨⟨gn,us,os⟩,⟨lo,hi',rows⟩,⟨ts',c1',c2',c3'⟩⟩,path,L⟩)),(3,.box [tsv st.2.2.1.ts,zL st.2.2.1.c.neg,nat st.2.2.1.c.num,nat st.2.2.1.c.den]),(4,.box [.nil,.ff,.nil,.nil])]⟩)
  (λst=>st.1<=us.length/\P st.1 st.2.1/\BG st.1 st.2.1=O/\st.2.2.1=fA st.2.1.1/\st.2.2.2=mR st.2.1.2) (λst=>st.1) (us.length,(f,[]),FA,[]) ⟨yD _,p1,hO',hFA.symm,rfl⟩ (.le (by cbv;repeat' first|exact trivial|exact lR|exact zB (by rw[zA])|exact yM rfl|apply And.intro) (by cbv;repeat' first|exact trivial|exact lR|apply And.intro) rfl) ?_
 clear hO' p1 cv cvr c7 hFA;intro st hst;obtain⟨i,x,a,m⟩:=st;obtain⟨g1,g2,g3,g4,g5⟩:=hst;dsimp only at g1 g2 g3 g4 g5;cbv;refine zF (λh5=>?_) (λh5=>?_)
 ·obtain⟨j,rfl⟩:∃ j,i=j+1:=⟨i-1,by exact om⟩;obtain⟨pa,hpa⟩:=zS (l:=us) (i:=j) oM;have c:=cr j pa x hpa g2;have n3:=p3 j x pa;rw[hBs j pa x hpa] at g3;rw[<-g4,<-g5] at c;rcases hr:RP pa.f j x with _|y
  ·rw[hr] at g3 c;obtain⟨q1,q2,q3⟩:=o0 g3.symm;subst q1 q2 q3;clear cr hBs n3;generalize fA (oFL none).1=W at *;generalize mR (oFL none).2=W2 at *;cbv;refine yJ rfl (by repeat' first|exact trivial|exact lR|exact zB (by exact om)|apply And.intro) c rfl ?_;cbv
   (try (refine WJ rfl ?_;cbv))
   exact rA
  ·rw[hr] at g3 c;have n4:=n3 y g2 hpa hr;obtain⟨W,hW⟩:=ex (fA (oFL (some y)).1);obtain⟨W2,hW2⟩:=ex (mR (oFL (some y)).2);rw[hW,hW2] at c;clear cr hBs n3;cbv;refine yJ rfl (by repeat' first|exact trivial|exact lR|exact zB (by exact om)|apply And.intro) c rfl ?_;cbv
   (try (refine dE rfl ?_;cbv))
   exact⟨zD om om,(j,y,W,W2),⟨(show j<=_ by omega),n4,g3,hW.symm,hW2.symm⟩,(show j<j+1 by omega),.le (by cbv;repeat' first|exact trivial|exact lR|exact zB om|apply And.intro) (by cbv;repeat' first|exact trivial|exact lR|apply And.intro) rfl⟩
 ·(have hi:i=0:=by exact om);subst hi
  rw[hB0] at g3;obtain⟨q1,q2,q3⟩:=o1 x g3.symm;rw[<-g4] at q1;rw[<-g5] at q2;subst q1 q2 q3;cbv;exact rA
abbrev oRL (o:Option (Rat×List (Row×Rat))):PV:=.tup [rv (zI (oV o)),mlv (mR (oL o)),zL o.isSome]
structure LowOk (s:Scp) (f:F):Prop where
 bk:BackOk s f
 bx:∀ g,s.back f=some g->BoxOk s g.1/\(s.box g.1).isSome=true/\(∀ t,t∈g.2->Fits (2^28) t.2)/\g.2.length<=2^36/\(∀ t,t∈oL (s.box g.1)->Fits (2^23) t.2)/\(oL (s.box g.1)).length<=32
def LR (s:Scp)(f:F)(hs:Usz s)(hz:s.q.sz (2^20))(hp:Dsz (2^20) s.path)(h:LowOk s f):zC 47 [sv s,fv f] (oRL (s.low f)):=by
 refine sF Tryz.f47 ?_;have cb:=Ea s f hs hz h.bk;have c1:=s32 1 (by decide) (by decide);rw[show (((1:Int):Rat))=(1:Rat) by rfl] at c1;have hlow:s.low f=(s.back f).map λg=>(oV (s.box g.1),xR g.2 (oL (s.box g.1)) 1):=rfl;obtain⟨FA,hFA⟩:=ex (fA f);simp only[fv] at *;unfold oRL;rw[hFA] at cb ⊢;have hbx:=h.bx;rcases hbk:s.back f with _|g
 ·(rw[hbk] at cb hlow;obtain⟨V,hV⟩:=ex (zI (oV (s.low f)));obtain⟨M,hM⟩:=ex (mR (oL (s.low f)));obtain⟨B,hB⟩:=ex ((s.low f).isSome);have q1:V=R0:=by rw[<-hV,hlow];exact uJ);have q2:M=[]:=by rw[<-hM,hlow];rfl
  (have q3:B=false:=by grind);rw[hV,hM,hB]
  subst q1 q2 q3;generalize fA (oFL none).1=W at *;generalize mR (oFL none).2=W2 at *;clear hlow hbx hs hz hp h hbk hV hM hB hFA;cbv;refine cA cb ?_;cbv
  (try (refine WJ rfl ?_;cbv))
  exact rA
 ·(obtain⟨b1,b2,b3,b4,b5,b6⟩:=hbx g hbk;have cx:=No s g.1 hs hz hp b1;have cm:=Gl g.2 (oL (s.box g.1)) (zI 1) b3 b4 b5 b6 ((zU fits_one).mono (by decide));rw[z6] at cm;rw[b2] at cx;rw[hbk] at cb hlow;have e1:oV (s.low f)=oV (s.box g.1):=by rw[hlow];rfl);have e2:oL (s.low f)=xR g.2 (oL (s.box g.1)) 1:=by rw[hlow];rfl
  (have e3:(s.low f).isSome=true:=by grind);rw[e1,e2,e3]
  simp only[fv] at cx;obtain⟨W,hW⟩:=ex (fA g.1);have hW':fA (oFL (some g)).1=W:=hW;rw[hW] at cx;rw[hW'] at cb;obtain⟨W2,hW2⟩:=ex (mR g.2);have hW2':mR (oFL (some g)).2=W2:=hW2;rw[hW2] at cm;rw[hW2'] at cb;generalize mR (xR g.2 (oL (s.box g.1)) 1)=W3 at *;generalize mR (oL (s.box g.1))=W4 at *;generalize zI (oV (s.box g.1))=W5 at *;generalize zI 1=R1 at *;clear hlow hbx hs hz hp h hbk b1 b2 b3 b4 b5 b6 hW hW' hW2 hW2' e1 e2 e3 hFA;cbv;refine cA cb ?_;cbv
  (try (refine dE rfl ?_;cbv))
  refine cA cx ?_;cbv;refine zM 5 (by cbv) ?_;cbv;refine dA c1 ?_;cbv;refine dA cm ?_;cbv;exact rA
structure DomOk (s:Scp) (f:F):Prop where
 bx:BoxOk s f
 lw:LowOk s f
 v:Fits (2^30) (oV (s.box f))/\Fits (2^30) (oV (s.low f))
def Nj (n : Nat) (s : Scp) (f : F) (hs : Usz s) (hz : s.q.sz (2^20)) (hp : Dsz (2^20) s.path) (h : DomOk s f) : zC 12 [iV n, sv s, fv f] (oRL (s.dom n f)) := by
  refine sF Tryz.f12 ?_
  have cx := No s f hs hz hp h.bx
  have cl := LR s f hs hz hp h.lw
  have cc := s42 (zI (oV (s.box f))) (zI (oV (s.low f))) ((zU h.v.1).mono (by decide)) ((zU h.v.2).mono (by decide))
  simp only [z6] at cc
  have hd : s.dom n f = if n = 0 ∨ (n = 2 ∧ (s.box f).isSome = true ∧ ((s.low f).isSome = false ∨ 0 ≤ uV (oV (s.box f)) (oV (s.low f)))) then s.box f else s.low f := rfl
  generalize uV (oV (s.box f)) (oV (s.low f)) = cm at *
  unfold oRL at *
  generalize s.box f = o1 at *
  generalize s.low f = o2 at *
  generalize s.dom n f = o at *
  obtain ⟨X1, hX1⟩ := ex (zI (oV o1))
  obtain ⟨M1, hM1⟩ := ex (mR (oL o1))
  obtain ⟨B1, hB1⟩ := ex o1.isSome
  obtain ⟨X2, hX2⟩ := ex (zI (oV o2))
  obtain ⟨M2, hM2⟩ := ex (mR (oL o2))
  obtain ⟨B2, hB2⟩ := ex o2.isSome
  obtain ⟨V, hV⟩ := ex (zI (oV o))
  obtain ⟨M, hM⟩ := ex (mR (oL o))
  obtain ⟨B, hB⟩ := ex o.isSome
  rw [hB1, hB2] at hd
  have d1 : ((n : Int) = 0 ∨ ((n : Int) = 2 ∧ B1 = true ∧ (B2 = false ∨ 0 ≤ cm))) → V = X1 ∧ M = M1 ∧ B = B1 := fun g => by
    grind
  have d2 : ¬ ((n : Int) = 0 ∨ ((n : Int) = 2 ∧ B1 = true ∧ (B2 = false ∨ 0 ≤ cm))) → V = X2 ∧ M = M2 ∧ B = B2 := fun g => by
    grind
  rw [hX1, hM1, hB1] at cx
  rw [hX2, hM2, hB2] at cl
  rw [hX1, hX2] at cc
  rw [hV, hM, hB]
  clear hX1 hX2 hM1 hM2 hB1 hB2 hV hM hB hd hs hz hp h
  obtain ⟨FA, hFA⟩ := ex (fA f)
  simp only [fv] at *
  rw [hFA] at cx cl ⊢
  clear hFA
  cbv
  refine cA cx ?_
  cbv
  refine cA cl ?_
  cbv
  refine Hk ?_
  cbv
  repeat' first
    | (refine zQ (fun e => ?_) (fun e => ?_) <;> cbv)
    | (refine yB (fun e => ?_) (fun e => ?_) <;> cbv)
    | (refine zF (fun e => ?_) (fun e => ?_) <;> cbv)
    | (refine zO (fun e => ?_) (fun e => ?_) <;> cbv)
    | (refine yJ rfl okA cc rfl ?_; cbv)
    | (have g : ((n : Int) = 0 ∨ ((n : Int) = 2 ∧ B1 = true ∧ (B2 = false ∨ 0 ≤ cm))) := by ((try dsimp only [zV] at *); grind)
       obtain ⟨q1, q2, q3⟩ := d1 g
       subst q1 q2 q3
       (refine rC ?_; cbv)
       exact okA)
    | (have g : ¬ ((n : Int) = 0 ∨ ((n : Int) = 2 ∧ B1 = true ∧ (B2 = false ∨ 0 ≤ cm))) := by ((try dsimp only [zV] at *); grind)
       obtain ⟨q1, q2, q3⟩ := d2 g
       subst q1 q2 q3
       (refine rC ?_; cbv)
       exact okA)
def LL (x:R)(up:Bool)(hx:x.sz (2^32)):zC 98 [rv x,iV 0,zL up] (rv (zI x.q)):=by
 refine sF Tryz.f98 ?_;have c:=s47 x hx;generalize zI x.q=W at *;clear hx;cbv
 (try (refine vC rfl ?_;cbv))
 refine cA c ?_;cbv;exact rA
def LJ (s:Scp)(m:Lem)(hs:Lsz (2^20) s.lems)(hv:m.v.sz (2^31)):zC 99 [sv s,lv' m] (zL (s.strg m.u m.up m.v.q)):=by
 refine sF Tryz.f99 ?_;have cb:=bB s m.u hs;have hll:=hs.len;have hss:=hs.sz;have hv1:=λh=>ZE (s:=s) (j:=m.u) h;have hv2:=λh=>Xf (s:=s) (j:=m.u) h;have cc:∀ y:R,y.sz (2^20)->zC 48 [rv m.v,rv y] (iV (uV m.v.q y.q)):=λy h=>s42 m.v y hv (h.mono (by decide));obtain⟨r,hr⟩:=ex (s.strg m.u m.up m.v.q);have h1:m.up=true->r=decide ((s.best m.u).2=0\/uV m.v.q (s.vHi m.u)<0):=λh=>by rw[<-hr];unfold Scp.strg;rw[if_pos h]
 have h2:m.up=false->r=decide ((s.best m.u).1=0\/0<uV m.v.q (s.vLo m.u)):=λh=>by rw[<-hr];unfold Scp.strg;rw[if_neg (by rw[h];decide)]
 rw[hr];obtain⟨u,up,v,pf⟩:=m;dsimp only at *;generalize s.best u=B at *;generalize s.vLo u=lo at *;generalize s.vHi u=hi at *;obtain⟨b1,b2⟩:=B;obtain⟨⟨⟨gn,us,os⟩,⟨lo',hi',rows⟩,⟨ts',c1',c2',c3'⟩⟩,path,L⟩:=s;dsimp only at *;clear hr hs hv;cbv;refine cA cb ?_;cbv;refine zO (λe=>?_) (λe=>?_)
 ·have h1':=h1 e;cbv;refine zM 15 (by cbv) ?_;cbv;refine zQ (λx=>?_) (λx=>?_)
  ·cbv
   (refine rC ?_;cbv)
   exact yV (by rw[h1'];exact decide_eq_true (.inl (by exact om)))
  (have y2:b2≠0:=by exact om);obtain⟨m2,g2,hy⟩:=hv2 y2
  have z2:=hss m2 (z3 g2);have l2:=(wE.1 g2).1;have c:=cc m2.v z2;rw[<-hy] at c;generalize uV v.q hi=cm at *;cbv;refine⟨zD om om,x5 g2 (by exact om) xB y7 ?_⟩;cbv;refine dA c ?_;cbv
  (refine rC ?_;cbv)
  exact zX (by rw[h1',decide_eq_decide];exact⟨.inr,λh=>h.elim (λh=>absurd h y2) id⟩)
 ·have h1':=h2 e;cbv;refine zM 15 (by cbv) ?_;cbv;refine zQ (λx=>?_) (λx=>?_)
  ·cbv
   (refine rC ?_;cbv)
   exact yV (by rw[h1'];exact decide_eq_true (.inl (by exact om)))
  (have y2:b1≠0:=by exact om);obtain⟨m2,g2,hy⟩:=hv1 y2
  have z2:=hss m2 (z3 g2);have l2:=(wE.1 g2).1;have c:=cc m2.v z2;rw[<-hy] at c;generalize uV v.q lo=cm at *;cbv;refine⟨zD om om,x5 g2 (by exact om) xB y7 ?_⟩;cbv;refine dA c ?_;cbv
  (refine rC ?_;cbv)
  exact zX (by rw[h1',decide_eq_decide];exact⟨.inr,λh=>h.elim (λh=>absurd h y2) id⟩)
abbrev kfO (s:Scp) (kind unit:Int):List (Nat×Obj'):=[(1000000,.box [iV kind]),(1000001,.box [iV unit]),(1000002,.box (sc s))]
abbrev Mf (s:Scp) (kind unit:Int) (d:Dec):Bool:=decide (d.k=kind)&&(decide (d.i=unit)&&d.fits s.q)
def LY (s:Scp)(kind unit:Int)(d:Dec)(hs:Psz s)(hd:d.x.sz (2^32)):Sound 121 [dv d,.ptr 1000000 0,.ptr 1000001 0,.ptr 1000002 0] (kfO s kind unit) [] (zL (Mf s kind unit d)) (kfO s kind unit) []:=by
 refine sF Tryz.f121 ?_;have cv:=Gi s.q d (hs.q.mono (by decide)) (hd.mono (by decide));rw[hs.v,yW] at cv;obtain⟨r,hr⟩:=ex (Mf s kind unit d);have hr':(decide (d.k=kind)&&(decide (d.i=unit)&&d.fits s.q))=r:=hr;rw[hr];generalize d.fits s.q=ft at *;clear hs hr hd;cbv;refine zQ (λe1=>?_) (λe1=>?_)
 rotate_left
 {rw[decide_eq_false e1,kS] at hr';subst hr';cbv;refine tX (.refl _) rfl (by repeat' first|exact trivial|exact rfl|apply And.intro) (by rfl) (by repeat' first|exact trivial|exact rfl|omega|apply And.intro) ?_;cbv;exact zK rfl};rw[decide_eq_true e1,yW] at hr';cbv;refine zQ (λe2=>?_) (λe2=>?_)
 rotate_left
 {rw[decide_eq_false e2,kS] at hr';subst hr';cbv;refine tX (.refl _) rfl (by repeat' first|exact trivial|exact rfl|apply And.intro) (by rfl) (by repeat' first|exact trivial|exact rfl|omega|apply And.intro) ?_;cbv;exact zK rfl};rw[decide_eq_true e2,yW] at hr';cbv;refine cA cv ?_;cbv;refine tX (.refl _) rfl (by repeat' first|exact trivial|exact rfl|apply And.intro) (by rfl) (by repeat' first|exact trivial|exact rfl|omega|apply And.intro) ?_;cbv;exact zX hr'
abbrev G6:PV:=.fn 121 [.ptr 1000000 0,.ptr 1000001 0,.ptr 1000002 0]
def LZ (s:Scp)(kind unit:Int)(hs:Psz s):Sound 120 [dlv s.path,G6] (kfO s kind unit) [] (iV (s.fst kind unit)) (kfO s kind unit) []:=by
 refine sI Bj rfl rfl rfl rfl rfl ?_;have cp:=λd (h:d∈s.path)=>LY s kind unit d hs (hs.p.sz d h);have hpl:=hs.p.len;obtain⟨r,hr⟩:=ex (s.fst kind unit);obtain⟨P,hP⟩:∃ P:Dec->Bool,Mf s kind unit=P:=⟨_,rfl⟩;have hr0:r=Zf P 0 (s.path.drop 0):=by rw[Z2,<-hP];exact hr.symm
 rw[hr];rw[hP] at cp;obtain⟨X,hX⟩:∃ X:Int->List Dec->Int,∀ i l,X i l=Zf P i l:=⟨_,λ_ _=>rfl⟩;have hXn:∀ i,X i []=-1:=λi=>by rw[hX];rfl
 have hXc:∀ i d r,X i (d::r)=if P d=true then i else X (i+1) r:=λi d r=>by grind [Z3]
 rw[<-hX] at hr0;clear hP hr hs hX;cbv;refine z7 (σ:=Nat) (λi=>⟨[(0,dlv s.path),(1,G6),(7,iV s.path.length),(8,iV i)],kfO s kind unit⟩) (λi=>i<=s.path.length/\r=X i (s.path.drop i)) (λi=>s.path.length-i) 0 ⟨by omega,hr0⟩ (.le ?_ ?_ rfl) ?_;{cbv;repeat' first|exact trivial|exact lR|exact rfl|exact zB (by rw[zA])|apply And.intro};{cbv;repeat' first|exact trivial|exact lR|apply And.intro};clear hr0;intro i hi;obtain⟨h1,h2⟩:=hi;cbv;refine zF (λh5=>?_) (λh5=>?_)
 ·(have hlt:i<s.path.length:=by exact om);obtain⟨d,hd⟩:=zS hlt
  have cv:=cp d (z3 hd);rw[zY hd,hXc] at h2;generalize P d=p at *;cbv;refine yL hd uF qP ?_;cbv;refine aB id (.refl _) rfl (by repeat' first|exact trivial|exact lR|exact zB rfl|exact rfl|apply And.intro) cv (by repeat' first|exact trivial|exact lR|exact zB rfl|exact rfl|apply And.intro) rfl rfl rfl rfl rfl rfl rfl rfl ?_;cbv;refine zO (λe=>?_) (λe=>?_);{rw[if_pos e] at h2;cbv;refine tX (.refl _) rfl (by repeat' first|exact trivial|exact rfl|apply And.intro) (by rfl) (by repeat' first|exact trivial|exact rfl|omega|apply And.intro) ?_;cbv;exact zB h2.symm};{rw[if_neg (by grind)] at h2;cbv;exact⟨zD om om,i+1,⟨om,h2⟩,om,.le (by cbv;repeat' first|exact trivial|exact lR|exact rfl|exact zB om|apply And.intro) (by cbv;repeat' first|exact trivial|exact lR|apply And.intro) rfl⟩}
 ·(have he:i=s.path.length:=by exact om);rw[he,vE,hXn] at h2
  cbv;refine tX (.refl _) rfl (by repeat' first|exact trivial|exact rfl|apply And.intro) (by rfl) (by repeat' first|exact trivial|exact rfl|omega|apply And.intro) ?_;cbv;exact zB h2.symm
def Tp (s:Scp)(kind unit:Int)(hs:Psz s):zC 55 [sv s,iV kind,iV unit] (iV (s.fst kind unit)):=by refine sF Tryz.f55 ?_;have ci:=LZ s kind unit hs;clear hs;cbv;refine aB (λn=>match nqb n 1000000 with|true=>4|false=>(match nqb n 1000001 with|true=>5|false=>3)) (.refl _) rfl (by repeat' first|exact trivial|exact lR|exact zB rfl|exact rfl|apply And.intro) ci (by repeat' first|exact trivial|exact lR|exact zB rfl|exact rfl|apply And.intro) rfl rfl rfl rfl rfl rfl rfl rfl ?_;cbv;exact rA
abbrev mpO (ks:List Int):Obj':=.mp 119 (λ_=>ks)
def HB {z:Int}(h1:-9223372036854775808<=z)(h2:z<=9223372036854775807):KeyOk (λ_=>z):=⟨by simp only[Lit.wf,yP,decide_eq_true_eq];exact⟨h1,h2⟩⟩
abbrev uO (s:Scp) (st:Ust):List (Nat×Obj'):=[(1000000,.box (sc s)),(1000001,.box [.mpv 1000005]),(1000002,.box [.mpv 1000004]),(1000003,.box [.fn 54 [.ptr 1000006 0,.ptr 1000000 0,.ptr 1000007 0]]),
 (1000004,mpO st.1),(1000005,mpO st.2),(1000006,.box [.fn 53 [.ptr 1000002 0]]),(1000007,.box [.fn 52 [.ptr 1000000 0,.ptr 1000001 0,.ptr 1000003 0]])]
def L6 (d:Int)(D:List Int)(h1:-9223372036854775808<=d)(h2:d<=9223372036854775807)(hD:D.length<2^39):Sound 53 [iV d,.ptr 1000002 0] [(1000002,.box [.mpv 1000004]),(1000004,mpO D)] [] (.tup []) [(1000002,.box [.mpv 1000004]),(1000004,mpO (bK d D))] []:=by
 refine sF Tryz.f53 ?_;obtain⟨R,hR⟩:=ex (bK d D);have hR':R=if 0<=d then d::D else D:=hR.symm
 rw[hR];clear hR;cbv;refine zF (λe=>?_) (λe=>?_);{rw[if_pos e] at hR';subst hR';cbv;refine⟨HB h1 h2,⟨by omega⟩,?_⟩;cbv;refine tX (.refl _) rfl (by repeat' first|exact trivial|exact rfl|apply And.intro) (by rfl) (by repeat' first|exact trivial|exact rfl|omega|apply And.intro) ?_;cbv};{rw[if_neg e] at hR';subst hR';cbv;refine tX (.refl _) rfl (by repeat' first|exact trivial|exact rfl|apply And.intro) (by rfl) (by repeat' first|exact trivial|exact rfl|omega|apply And.intro) ?_;cbv}
abbrev DB (s:Scp) (l:List Mult) (a b:Ust):Prop:=Sound 54 [mlv l,.ptr 1000006 0,.ptr 1000000 0,.ptr 1000007 0] (uO s a) [] (.tup []) (uO s b) []
def LT (s:Scp)(U:List Mult->Ust->Ust)(n:Int)(st:Ust)(h1:-9223372036854775808<=n)(h2:n<=9223372036854775807)(hM:st.2.length<2^39) (cU:0<=n->n<s.lems.length->n∉st.2->DB s (s.pfn n) (st.1,n::st.2) (U (s.pfn n) (st.1,n::st.2))):Sound 52 [iV n,.ptr 1000000 0,.ptr 1000001 0,.ptr 1000003 0] (uO s st) [] (.tup []) (uO s (dK s U n st)) []:=by
 refine sF Tryz.f52 ?_;obtain⟨R,hR⟩:=ex (dK s U n st);have hR':R=if 0<=n/\n<s.lems.length/\n∉st.2 then U (s.pfn n) (st.1,n::st.2) else st:=hR.symm
 rw[hR];clear hR;obtain⟨D,M⟩:=st;dsimp only at hR' cU hM;cbv;refine zQ (λe1=>?_) (λe1=>?_)
 rotate_left
 {rw[if_neg (λh=>e1 h.1)] at hR';subst hR';cbv;refine tX (.refl _) rfl (by repeat' first|exact trivial|exact rfl|apply And.intro) (by rfl) (by repeat' first|exact trivial|exact rfl|omega|apply And.intro) ?_;cbv};cbv;refine zQ (λe2=>?_) (λe2=>?_)
 rotate_left
 {rw[if_neg (λh=>e2 (by grind [zA]))] at hR';subst hR';cbv;refine tX (.refl _) rfl (by repeat' first|exact trivial|exact rfl|apply And.intro) (by rfl) (by repeat' first|exact trivial|exact rfl|omega|apply And.intro) ?_;cbv};rw[zA] at e2;cbv;refine⟨HB h1 h2,?_⟩;cbv;refine zO (λe3=>?_) (λe3=>?_);{rw[if_neg (λh=>h.2.2 (of_decide_eq_true e3))] at hR';subst hR';cbv;refine tX (.refl _) rfl (by repeat' first|exact trivial|exact rfl|apply And.intro) (by rfl) (by repeat' first|exact trivial|exact rfl|omega|apply And.intro) ?_;cbv};have e3':n∉M:=of_decide_eq_false e3;rw[if_pos ⟨e1,e2,e3'⟩] at hR';have c:=cU e1 e2 e3';rw[<-hR'] at c;obtain⟨m,hm⟩:=zS (l:=s.lems) (i:=n.toNat) (by exact om);have hp:s.pfn n=m.pf:=by unfold Scp.pfn;rw[hm];rfl
 rw[hp] at c;obtain⟨D',M'⟩:=R;clear hR' cU hp;cbv;refine⟨HB h1 h2,⟨by grind⟩,?_⟩;cbv;refine zM 7 (by cbv) ?_;cbv;refine x5 hm (by exact om) xB y7 ?_;cbv;refine aB id (.refl _) rfl (by repeat' first|exact trivial|exact lR|exact zB rfl|exact rfl|apply And.intro) c (by repeat' first|exact trivial|exact lR|exact zB rfl|exact rfl|apply And.intro) rfl rfl rfl rfl rfl rfl rfl rfl ?_;cbv;refine tX (.refl _) rfl (by repeat' first|exact trivial|exact rfl|apply And.intro) (by rfl) (by repeat' first|exact trivial|exact rfl|omega|apply And.intro) ?_;cbv
def Rsm (r:Row):Prop:=(-4611686018427387904<=r.i/\r.i<4611686018427387904)/\(-4611686018427387904<=r.lo/\r.lo<4611686018427387904)/\(-4611686018427387904<=r.hi/\r.hi<4611686018427387904)
def Ze {α:Type}(P:α->Bool):∀ l:List α,v6 P l<=l.length
 |[]=>by show (-1:Int)<=((0:Nat):Int);decide| a::r=>by have:=Ze P r;have h:=aS P r;rw[show v6 P (a::r)=if P a then 0 else if v6 P r<0 then -1 else v6 P r+1 from rfl,rK];omega
def SI {s:Scp}{r:Row}(h:Rsm r)(hp:s.path.length<2^38):-9223372036854775808<=s.rowD r/\s.rowD r<=9223372036854775807:=by have h1:=aS (λd=>decide (d.k=1)&&(decide (d.i=r.i)&&d.fits s.q)) s.path;have h2:=aS (λd=>decide (d.k=2)&&(decide (d.i=r.i)&&d.fits s.q)) s.path;have g1:=Ze (λd=>decide (d.k=1)&&(decide (d.i=r.i)&&d.fits s.q)) s.path;have g2:=Ze (λd=>decide (d.k=2)&&(decide (d.i=r.i)&&d.fits s.q)) s.path;obtain⟨⟨a1,a2⟩,_⟩:=h;grind [Scp.rowD,Scp.fst]
def LG (s : Scp) (U : List Mult → Ust → Ust) (l : List Mult) (st : Ust) (hs : Psz s) (hl : l.length < 2^38) (hr : ∀ m, m ∈ l → Rsm m.row) (Q : Nat → Ust → Prop) (h0 : Q 0 st)
    (hQ : ∀ i a, Q i a → a.1.length < 2^39 ∧ a.2.length < 2^39)
    (hS : ∀ i m a, l[i]? = some m → Q i a → ∀ n, (n = m.row.lo - 1 ∨ n = m.row.hi - 1) → Rsm m.row → ∀ b, (b = (bK (s.rowD m.row) a.1, a.2) ∨ b = dK s U (m.row.lo - 1) (bK (s.rowD m.row) a.1, a.2)) →
      Sound 52 [iV n, .ptr 1000000 0, .ptr 1000001 0, .ptr 1000003 0] (uO s b) [] (.tup []) (uO s (dK s U n b)) [])
    (hN : ∀ i m a, l[i]? = some m → Q i a → Q (i + 1) (dK s U (m.row.hi - 1) (dK s U (m.row.lo - 1) (bK (s.rowD m.row) a.1, a.2)))) :
    DB s l st (ZF s U l st) := by
  refine sF Tryz.f54 ?_
  have hpl := hs.p.len
  have c1 := fun unit => Tp s 1 unit hs
  have c2 := fun unit => Tp s 2 unit hs
  have hrd : ∀ r, s.rowD r = if r.k = 4 then r.i else if (r.k = 7 ∨ r.k = 8) ∧ r.lo = 0 then s.fst 1 r.i else if (r.k = 9 ∨ r.k = 10) ∧ r.hi = 0 then s.fst 2 r.i else -1 := fun _ => rfl
  have hsm := fun r h => SI (s := s) (r := r) h hpl
  obtain ⟨R, hR⟩ := ex (ZF s U l st)
  rw [hR]
  obtain ⟨X, hX⟩ : ∃ X : List Mult → Ust → Ust, ZF s U = X := ⟨_, rfl⟩
  obtain ⟨LS, hLS⟩ : ∃ LS : Int → Ust → Ust, dK s U = LS := ⟨_, rfl⟩
  have hXn : ∀ a, X [] a = a := fun a => by rw [← hX]; rfl
  have hXc : ∀ m r a, X (m :: r) a = X r (LS (m.row.hi - 1) (LS (m.row.lo - 1) (bK (s.rowD m.row) a.1, a.2))) := fun m r a => by rw [← hX, ← hLS]; rfl
  rw [hX] at hR
  rw [hLS] at hS hN
  clear hX hLS hs
  cbv
  refine z7 (σ := Nat × List Int × List Int) (fun x => ⟨[(1, .ptr 1000006 0), (2, .ptr 1000000 0), (3, .ptr 1000007 0), (8, mlv l), (9, iV l.length), (10, iV x.1)], uO s (x.2.1, x.2.2)⟩)
    (fun x => x.1 ≤ l.length ∧ X (l.drop x.1) (x.2.1, x.2.2) = R ∧ Q x.1 (x.2.1, x.2.2)) (fun x => l.length - x.1) (0, st.1, st.2) ⟨xA _, hR, h0⟩ (.le (by cbv; repeat' first | exact trivial | exact lR | exact rfl | exact zB (by rw [zA]) | apply And.intro) (by cbv; repeat' first | exact trivial | exact lR | exact rfl | exact ⟨rfl⟩ | apply And.intro) rfl) ?_
  clear hR h0
  intro x hx
  obtain ⟨i, D, M⟩ := x
  obtain ⟨g1, g2, g3⟩ := hx
  dsimp only at g1 g2 g3
  cbv
  refine zF (fun h5 => ?_) (fun h5 => ?_)
  · have hlt : i < l.length := by exact om
    obtain ⟨m, hm⟩ := zS hlt
    rw [zY hm, hXc] at g2
    have hrm := hr m (z3 hm)
    obtain ⟨q1, q2⟩ := hQ i (D, M) g3
    have cl := hS i m (D, M) hm g3
    have nx := hN i m (D, M) hm g3
    obtain ⟨⟨k, ri, lo, hi⟩, mc'⟩ := m
    dsimp only at g2 q1 q2 cl nx hrm
    have hd := hrd ⟨k, ri, lo, hi⟩
    have hds := hsm ⟨k, ri, lo, hi⟩ hrm
    generalize s.rowD ⟨k, ri, lo, hi⟩ = d at *
    obtain ⟨⟨r1, r2⟩, ⟨r3, r4⟩, ⟨r5, r6⟩⟩ := hrm
    dsimp only at hd r1 r2 r3 r4 r5 r6
    have cd := L6 d D hds.1 hds.2 oM
    have d1 := c1 ri
    have d2 := c2 ri
    generalize s.fst 1 ri = f1 at *
    generalize s.fst 2 ri = f2 at *
    obtain ⟨D0, hD0⟩ := ex (bK d D)
    have hn1 : d = -1 → D = D0 := fun e => by rw [← hD0, e]; rfl
    rw [hD0] at cd cl nx g2
    obtain ⟨b1, hb1⟩ := ex (LS (lo - 1) (D0, M))
    have e1 := cl (lo - 1) (.inl rfl) ⟨⟨r1, r2⟩, ⟨r3, r4⟩, ⟨r5, r6⟩⟩ (D0, M) (.inl rfl)
    have e2 := cl (hi - 1) (.inr rfl) ⟨⟨r1, r2⟩, ⟨r3, r4⟩, ⟨r5, r6⟩⟩ b1 (.inr hb1.symm)
    rw [hb1] at e1 nx g2
    obtain ⟨b2, hb2⟩ := ex (LS (hi - 1) b1)
    rw [hb2] at e2 nx g2
    obtain ⟨D1, M1⟩ := b1
    obtain ⟨D2, M2⟩ := b2
    clear hS hN hQ hr hrd hsm hXn hXc c1 c2 cl hb1 hb2 hD0
    cbv
    refine yL hm vA xS ?_
    cbv
    refine kU (σ := Unit) (fun _ => ⟨[(1, .ptr 1000006 0), (2, .ptr 1000000 0), (3, .ptr 1000007 0), (7, .ptr 7 0), (8, mlv l), (9, iV l.length), (10, iV i)], uO s (D0, M) ++ [(7, .box [iV k, iV ri, iV lo, iV hi])]⟩) (fun _ => True) (fun e => ?_) (fun e => ?_) (fun _ _ => ?_)
    · rw [if_pos e] at hd
      subst hd
      cbv
      refine aB id (.refl _) rfl (by repeat' first | exact trivial | exact lR | exact zB rfl | exact rfl | apply And.intro) cd (by repeat' first | exact trivial | exact lR | exact zB rfl | exact rfl | apply And.intro) rfl rfl rfl rfl rfl rfl rfl rfl ?_
      cbv
      exact ⟨(), trivial, .le (by cbv; repeat' first | exact trivial | exact lR | exact rfl | exact zB om | apply And.intro) (by cbv; repeat' first | exact trivial | exact lR | exact zG rfl | exact rfl | exact ⟨rfl⟩ | apply And.intro) rfl⟩
    · rw [if_neg e] at hd
      cbv
      repeat' first
        | exact trivial
        | (exfalso; exact om)
        | (refine zQ (fun x => ?_) (fun x => ?_) <;> cbv)
        | (refine zF (fun x => ?_) (fun x => ?_) <;> cbv)
        | (have gk : (k = 7 ∨ k = 8) ∧ lo = 0 := by exact om
           rw [if_pos gk] at hd
           subst hd
           refine zM 5 (by cbv) ?_
           cbv
           refine dA d1 ?_
           cbv
           refine aB id (.refl _) rfl (by repeat' first | exact trivial | exact lR | exact zB rfl | exact rfl | apply And.intro) cd (by repeat' first | exact trivial | exact lR | exact zB rfl | exact rfl | apply And.intro) rfl rfl rfl rfl rfl rfl rfl rfl ?_
           cbv
           exact ⟨(), trivial, .le (by cbv; repeat' first | exact trivial | exact lR | exact rfl | exact zB om | apply And.intro) (by cbv; repeat' first | exact trivial | exact lR | exact zG rfl | exact rfl | exact ⟨rfl⟩ | apply And.intro) rfl⟩)
        | (have gk : ¬ ((k = 7 ∨ k = 8) ∧ lo = 0) := by exact om
           have gl : (k = 9 ∨ k = 10) ∧ hi = 0 := by exact om
           rw [if_neg gk, if_pos gl] at hd
           subst hd
           refine zM 5 (by cbv) ?_
           cbv
           refine dA d2 ?_
           cbv
           refine aB id (.refl _) rfl (by repeat' first | exact trivial | exact lR | exact zB rfl | exact rfl | apply And.intro) cd (by repeat' first | exact trivial | exact lR | exact zB rfl | exact rfl | apply And.intro) rfl rfl rfl rfl rfl rfl rfl rfl ?_
           cbv
           exact ⟨(), trivial, .le (by cbv; repeat' first | exact trivial | exact lR | exact rfl | exact zB om | apply And.intro) (by cbv; repeat' first | exact trivial | exact lR | exact zG rfl | exact rfl | exact ⟨rfl⟩ | apply And.intro) rfl⟩)
        | (have gk : ¬ ((k = 7 ∨ k = 8) ∧ lo = 0) := by exact om
           have gl : ¬ ((k = 9 ∨ k = 10) ∧ hi = 0) := by exact om
           rw [if_neg gk, if_neg gl] at hd
           have hN0 := hn1 hd
           exact ⟨(), trivial, .le (by cbv; repeat' first | exact trivial | exact lR | exact rfl | exact zB om | apply And.intro) (by cbv; repeat' first | exact trivial | exact lR | exact zG rfl | exact rfl | exact ⟨rfl⟩ | exact ⟨hN0⟩ | apply And.intro) rfl⟩)
    · cbv
      refine ⟨zD om om, ?_⟩
      cbv
      refine aB id (.refl _) rfl (by repeat' first | exact trivial | exact lR | exact zB rfl | exact rfl | apply And.intro) e1 (by repeat' first | exact trivial | exact lR | exact zB rfl | exact rfl | apply And.intro) rfl rfl rfl rfl rfl rfl rfl rfl ?_
      cbv
      refine ⟨zD om om, ?_⟩
      cbv
      refine aB id (.refl _) rfl (by repeat' first | exact trivial | exact lR | exact zB rfl | exact rfl | apply And.intro) e2 (by repeat' first | exact trivial | exact lR | exact zB rfl | exact rfl | apply And.intro) rfl rfl rfl rfl rfl rfl rfl rfl ?_
      cbv
      exact ⟨zD om om, (i + 1, D2, M2), ⟨om, g2, nx⟩, om, .le (by cbv; repeat' first | exact trivial | exact lR | exact rfl | exact zB om | apply And.intro) (by cbv; repeat' first | exact trivial | exact lR | exact zG rfl | exact rfl | exact ⟨rfl⟩ | apply And.intro) rfl⟩
  · have he : i = l.length := by exact om
    rw [he, vE, hXn] at g2
    subst g2
    cbv
    refine tX (.refl _) rfl (by repeat' first | exact trivial | exact rfl | apply And.intro) (by rfl) (by repeat' first | exact trivial | exact rfl | omega | apply And.intro) ?_
    cbv
structure UseOk (s:Scp) (l:List Mult) (st:Ust):Prop where
 len:l.length<2^38
 row:∀ m,m∈l->Rsm m.row
 wgt:wgt s st+l.length<2^39
 vol:vol s st<2^39
structure Lpf (s:Scp):Prop where
 len:∀ m,m∈s.lems->m.pf.length<2^38
 row:∀ m,m∈s.lems->∀ x,x∈m.pf->Rsm x.row
def RZ (s:Scp)(U:List Mult->Ust->Ust)(f:Nat)(hs:Psz s)(hp:Lpf s)(hR:∀ l a,um s a.2<f->Run s l a (U l a))(hW:∀ l a,um s a.2<f->wgt s (U l a)<=wgt s a+l.length)(hV:∀ l a,um s a.2<f->vol s (U l a)=vol s a) (hC:∀ l st,um s st.2<f->UseOk s l st->DB s l st (U l st)) (l:List Mult) (st:Ust) (hf:um s st.2<=f) (h:UseOk s l st):DB s l st (ZF s U l st):=by
 have key:∀ i m (a:Ust),l[i]?=some m->(um s a.2<=f/\wgt s a+(l.length-i)<=wgt s st+l.length/\vol s a=vol s st)->∀ b,(b=(bK (s.rowD m.row) a.1,a.2)\/b=dK s U (m.row.lo-1) (bK (s.rowD m.row) a.1,a.2)) ->
   um s b.2<=f/\wgt s b+(l.length-(i+1))<=wgt s st+l.length/\vol s b=vol s st:=by
  (intro i m a hm hq b hb;obtain⟨q1,q2,q3⟩:=hq;have hi:i<l.length:=(wE.1 hm).1;have u1:um s ((bK (s.rowD m.row) a.1,a.2):Ust).2<=f:=q1;have w1:wgt s (bK (s.rowD m.row) a.1,a.2)<=wgt s a+1:=by have:=Ji (s.rowD m.row) a.1;show (bK _ _).length+pot s a.2<=a.1.length+pot s a.2+1;omega);have o1:vol s (bK (s.rowD m.row) a.1,a.2)=vol s a:=rfl;rcases hb with rfl|rfl;{exact⟨u1,by omega,by omega⟩}
  {have w2:=o8 hW (n:=m.row.lo-1) u1;have o2:=o9 hV (n:=m.row.lo-1) u1;exact⟨YW hR u1,by omega,by omega⟩}
 refine LG s U l st hs h.len h.row (λi a=>um s a.2<=f/\wgt s a+(l.length-i)<=wgt s st+l.length/\vol s a=vol s st) ⟨hf,by omega,rfl⟩ ?_ ?_ ?_;{intro i a hq;obtain⟨q1,q2,q3⟩:=hq;have hw:=h.wgt;have hv:=h.vol;have e1:wgt s a=a.1.length+pot s a.2:=rfl;have e2:vol s a=a.2.length+um s a.2:=rfl;exact⟨by omega,by omega⟩}
 ·(intro i m a hm hq n hn hr b hb;obtain⟨q1,q2,q3⟩:=key i m a hm hq b hb;obtain⟨_,⟨r1,r2⟩,⟨r3,r4⟩⟩:=hr;have hw:=h.wgt;have hv:=h.vol;have e2:vol s b=b.2.length+um s b.2:=rfl;refine LT s U n b (by rcases hn with rfl|rfl <;> omega) (by rcases hn with rfl|rfl <;> omega) oM (λg0 g1 g2=>?_);have hu:=UG g0 g1 g2;have hpt:=Gx g0 g1 g2;obtain⟨x,hx⟩:=zS (l:=s.lems) (i:=n.toNat) oM;have hpn:s.pfn n=x.pf:=by unfold Scp.pfn;rw[hx];rfl);have hxm:=z3 hx
  have e1:wgt s b=b.1.length+pot s b.2:=rfl;have e3:wgt s (b.1,n::b.2)=b.1.length+pot s (n::b.2):=rfl;have e4:vol s (b.1,n::b.2)=(n::b.2).length+um s (n::b.2):=rfl;rw[rK] at e4;exact hC _ _ (by show um s (n::b.2)<f;omega) ⟨by rw[hpn];exact hp.len x hxm,by rw[hpn];exact hp.row x hxm,by omega,by omega⟩
 {intro i m a hm hq;obtain⟨q1,q2,q3⟩:=key i m a hm hq _ (.inr rfl);have w2:=o8 hW (n:=m.row.hi-1) q1;have o2:=o9 hV (n:=m.row.hi-1) q1;exact⟨YW hR q1,by omega,by omega⟩}
def MY (s:Scp)(hs:Psz s)(hp:Lpf s):∀ (f:Nat) (l:List Mult) (st:Ust),um s st.2<=f->UseOk s l st->DB s l st (rJ s f l st)
 |0,l,st,hf,h=>RZ s (λ_ st=>st) 0 hs hp (λ_ _ h=>absurd h oM) (λ_ _ h=>absurd h oM) (λ_ _ h=>absurd h oM) (λ_ _ h=>absurd h oM) l st hf h| f+1,l,st,hf,h=>RZ s (rJ s f) (f+1) hs hp (λl a h=>mI s f l a oM) (λl a h=>Xk s f l a oM) (λl a h=>Xl s f l a oM) (λl st h h'=>MY s hs hp f l st oM h') l st hf h
def NM {rs:List ResultVar}{r:PV}{ps ps':PS}{kept made:List (Nat×Obj')}(hn:Nat->Nat)(hw:Wk ps ps')(h3:lv r=true)(h4:qE hn ps'.objs (kept++made))(h5:ndO (z9 hn (kept++made))=true)(h6:Wl hn kept)(h:match bE ps' rs with
  |some l=>les (lU l) (ren hn r)| none=>False):RetOk rs r kept made ps:=by
 cases h1:bE ps' rs with
 |none=>rw[h1] at h;exact h.elim| some l=>rw[h1] at h;exact⟨ps',l,hn,hw,h1,bY h,h3,h4,h5,h6⟩
abbrev Bb (n:Nat):PV:=.fn 125 [.ptr n 0]
def Ni (ks:List Int):Sound 57 [.mpv 1000000] [(1000000,mpO ks)] [] (Bb 1) [(1000000,mpO ks)] [(1,.box [.mpv 1000000])]:=by
 refine sF Tryz.f57 ?_;cbv;refine NM (λn=>n) (.refl _) rfl (by repeat' first|exact trivial|exact rfl|apply And.intro) (by rfl) (by repeat' first|exact trivial|exact rfl|omega|apply And.intro) ?_;cbv
 repeat' first|exact trivial|exact lR|exact rfl|apply And.intro
abbrev JN:Prop:=∀ ks:List Int,ks.length<2^40->(∀ z,z∈ks->-9223372036854775808<=z/\z<=9223372036854775807)->Sound 56 [Bb 1000001] [(1000000,mpO ks),(1000001,.box [.mpv 1000000])] [] (zlv (j9 ks)) [(1000000,mpO ks),(1000001,.box [.mpv 1000000])] []
def Pd:MapOk 119:=⟨3,4,by rw[uZ];rfl,by rw[uZ];rfl,by rw[uZ];rfl,by cbv⟩
def usH (n:Nat):Nat:=match nqb n 1000000 with
 |true=>2
 |false=>match nqb n 1000001 with
  |true=>7
  |false=>match nqb n 1000002 with
   |true=>6
   |false=>match nqb n 1000003 with
    |true=>8
    |false=>match nqb n 1000004 with
     |true=>11
     |false=>match nqb n 1000005 with
      |true=>12
      |false=>match nqb n 1000006 with
       |true=>10| false=>9
def LI (h56 : JN) (s : Scp) (l : List Mult) (hs : Psz s) (hp : Lpf s) (h : UseOk s l ([], [])) (hz : ∀ z, (z ∈ (rJ s s.lems.length l ([], [])).1 ∨ z ∈ (rJ s s.lems.length l ([], [])).2) → -9223372036854775808 ≤ z ∧ z ≤ 9223372036854775807) (hl : (rJ s s.lems.length l ([], [])).1.length < 2^40 ∧ (rJ s s.lems.length l ([], [])).2.length < 2^40) (hu : um s [] ≤ s.lems.length) :
    zC 14 [sv s, mlv l] (.tup [zlv (j9 (rJ s s.lems.length l ([], [])).1), zlv (j9 (rJ s s.lems.length l ([], [])).2)]) := by
  refine sF Tryz.f14 ?_
  have cu := MY s hs hp s.lems.length l ([], []) hu h
  obtain ⟨R, hR⟩ := ex (rJ s s.lems.length l ([], []))
  rw [hR] at cu hz hl ⊢
  obtain ⟨D, M⟩ := R
  dsimp only at hz hl ⊢
  have k1 := Ni D
  have k2 := Ni M
  have s1 := h56 D hl.1 (fun z g => hz z (.inl g))
  have s2 := h56 M hl.2 (fun z g => hz z (.inr g))
  generalize j9 D = SD at *
  generalize j9 M = SM at *
  clear hR hz hl hs hp h hu h56
  cbv
  refine ⟨Pd, Pd, ?_⟩
  cbv
  refine aB usH (.refl _) rfl (by repeat' first | exact trivial | exact lR | exact zB rfl | exact rfl | apply And.intro) cu (by repeat' first | exact trivial | exact lR | exact zB rfl | exact rfl | apply And.intro) rfl rfl rfl rfl rfl rfl rfl rfl ?_
  cbv
  refine aX (σ := Unit) (fun _ => ⟨[(4, zlv SD), (5, zlv SM)], []⟩) (fun _ => True) (.refl _) (by cbv) ?_ ?_
  · cbv
    repeat' first
      | exact trivial
      | (refine aB N5 (.refl _) rfl ?_ k1 ?_ rfl rfl rfl rfl rfl rfl rfl rfl ?_
         · repeat' first | exact trivial | exact lR | exact rfl | apply And.intro
         · repeat' first | exact trivial | exact lR | exact rfl | apply And.intro
         cbv)
      | (refine aB N4 (.refl _) rfl ?_ k2 ?_ rfl rfl rfl rfl rfl rfl rfl rfl ?_
         · repeat' first | exact trivial | exact lR | exact rfl | apply And.intro
         · repeat' first | exact trivial | exact lR | exact rfl | apply And.intro
         cbv)
      | (refine aB N5 (.refl _) rfl ?_ s1 ?_ rfl rfl rfl rfl rfl rfl rfl rfl ?_
         · repeat' first | exact trivial | exact lR | exact rfl | apply And.intro
         · repeat' first | exact trivial | exact lR | exact rfl | apply And.intro
         cbv)
      | (refine aB N4 (.refl _) rfl ?_ s2 ?_ rfl rfl rfl rfl rfl rfl rfl rfl ?_
         · repeat' first | exact trivial | exact lR | exact rfl | apply And.intro
         · repeat' first | exact trivial | exact lR | exact rfl | apply And.intro
         cbv)
      | exact ⟨(), trivial, .le (by cbv; exact okA) trivial rfl⟩
      | apply And.intro
  · intro _ _
    cbv
    exact rA
def DL:JN:=λks h1 h2=>Kk ks h1 h2
end Go.Proofs.YtaeaffgjdcigoaaGreat
