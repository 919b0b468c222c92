/- A part of the proof: KcV. -/
import Derived.Test.YtaeaffgjdcigoaaGreatW36
import Derived.Test.YtaeaffgjdcigoaaGreatW34
set_option linter.all false
namespace Go.Proofs.YtaeaffgjdcigoaaGreat
open Go
set_option maxRecDepth 100000
set_option maxHeartbeats 8000000
def SE (s:Scp)(j:Int)(up:Bool)(o:Option (Rat×List (Row×Rat))):runL s j up o=xN (o.isSome&&s.strg j up (if up=true then -(oV o) else oV o)) j up (zI (if up=true then -(oV o) else oV o)) (mR (oL o)):=by
 unfold runL xN;cases o with
 |none=>rfl| some v =>
  rw[show (some v:Option (Rat×List (Row×Rat))).isSome=true from rfl,yW];rfl
structure RnF (n:Nat) (q:Qry) (P:List Dec) (j:Nat) (p:A) (up:Bool) (L:List Lem) (xv wv:R) (xl:List Mult) (xb s1:Bool):Prop where
 c1:zC 12 [iV n,sv ⟨q,P,L⟩,av p] (.tup [rv xv,mlv xl,zL xb])
 c2:up=true->zC 101 [rv xv] (rv wv)
 c3:zC 98 [rv wv,iV 0,zL up] (rv wv)
 c4:zC 99 [sv ⟨q,P,L⟩,lv' ⟨j,up,wv,xl⟩] (zL s1)
 e:up=false->xv=wv
def Kr {x:FQry}(hx:Sq x){s:Scp}{p c j:Nat}(h:Rw x s p c)(hp:p<=1000)(hc:c<=1000)(n:Nat){up:Bool}{f:F}(hf:f.cd 1)(hw:f.wf ((x.g.n+j:Nat):Int))(hj:j<x.g.us.length):∃ xv wv xl xb s1,RnF n s.q s.path j (fA f) up s.lems xv wv xl xb s1/\runS n s j up f=⟨s.q,s.path,s.lems++xN (xb&&s1) j up wv xl⟩/\Rw x ⟨s.q,s.path,s.lems++xN (xb&&s1) j up wv xl⟩ p (c+1):=by
 obtain⟨u1,u2,u3,u4⟩:=h.usz hx hp hc;obtain⟨d1,d2⟩:=QE hx.s hx.o h.z hx.u hf (by decide) hw oM;have dn:=d2 n;have hus:=hx.s.g.us;have hv:Fits (2^23) (oV (s.dom n f)):=dn.v.mono (vL (iZ hx.s.g.n1 hx.s.g.n2 (by omega:j<=4)).2.2.2.2.2.1 (by decide));have c1:=Nj n s f u1 u2 u3 d1;have hr:=h.runS hx n (up:=up) hf hw hj;have e0:runS n s j up f=⟨s.q,s.path,s.lems++xN ((s.dom n f).isSome&&s.strg j up (if up=true then -(oV (s.dom n f)) else oV (s.dom n f))) j up (zI (if up=true then -(oV (s.dom n f)) else oV (s.dom n f))) (mR (oL (s.dom n f)))⟩:=by unfold runS;rw[SE]
 have hw2:Fits (2^23) (if up=true then -(oV (s.dom n f)) else oV (s.dom n f)):=by split;{exact qF hv};{exact hv}
 refine⟨zI (oV (s.dom n f)),zI (if up=true then -(oV (s.dom n f)) else oV (s.dom n f)),mR (oL (s.dom n f)),(s.dom n f).isSome,s.strg j up (if up=true then -(oV (s.dom n f)) else oV (s.dom n f)),⟨c1,λhu=>?_,?_,?_,λhu=>?_⟩,e0,by rw[<-e0];exact hr⟩;{have:=Cc (zI (oV (s.dom n f))) ((zU hv).mono (by decide));rw[z6] at this;rw[if_pos hu];exact this};{have:=LL (zI (if up=true then -(oV (s.dom n f)) else oV (s.dom n f))) up ((zU hw2).mono (by decide));rw[z6] at this;exact this};{have:=LJ s ⟨j,up,zI (if up=true then -(oV (s.dom n f)) else oV (s.dom n f)),mR (oL (s.dom n f))⟩ u1.l ((zU hw2).mono (by decide));dsimp only at this;rw[z6] at this;exact this};{rw[hu];rfl}
def Sr {x:FQry}(hx:Sq x){s:Scp}{p c:Nat}(h:Rw x s p c)(hp:p<=1000)(hc:c<=900)(n:Nat):zC 37 [iV n,sv s,iV 0] (.tup [sv (s.run n),iV 0]):=by
 refine sF Tryz.f37 ?_;obtain⟨u1,u2,u3,u4⟩:=h.usz hx hp oM;have cv:=iA s.q (u2.mono (by decide));rw[u1.v] at cv;have cof:=s32 (-1) (by decide) (by decide);have hq:=h.z.g;have hsc:∀ g:F,g∈x.g.us->zC 100 [av (fA g),rv (zI ((-1:Int):Rat))] (av (fA (g.scale (-1)))):=λg hg=>by obtain⟨i,hi⟩:=cR hg;have hw:=hx.o.us i g hi;have hl:=hw.len;have h1:=hx.s.g.n2;have h2:=hx.s.g.us;have h3:=(wE.1 hi).1;exact fQ (q:=-1) (k:=1) (n:=7) ((hx.u g hg).fl hw.cn oM) wK (by decide) (by decide) (by decide)
 
 have hF:∀ (j:Nat) (pa:A) (L:List Lem),s.q.g.us[j]?=some pa->Rw x ⟨s.q,s.path,L⟩ p (c+2*j)->∃ p2 xv xl xb s1,RnF n s.q s.path j pa false L xv xv xl xb s1/\zC 100 [av pa,rv (zI ((-1:Int):Rat))] (av p2) /\
   ∀ L1,L1=L++xN (xb&&s1) j false xv xl->∃ yv zv yl yb s2,RnF n s.q s.path j p2 true L1 yv zv yl yb s2 /\
    ∀ L2,L2=L1++xN (yb&&s2) j true zv yl->Rw x ⟨s.q,s.path,L2⟩ p (c+2*(j+1))/\∀ r,runG n (pa::r) j ⟨s.q,s.path,L⟩=runG n r (j+1) ⟨s.q,s.path,L2⟩:=λj pa L hpa hL=>by
  obtain⟨g,hg,rfl⟩:=UE hq hpa;have hlt:=(wE.1 hg).1;have hus:=hx.s.g.us;have hm:=z3 hg;obtain⟨xv,wv,xl,xb,s1,F1,e1,R1⟩:=Kr hx hL hp oM n (up:=false) (hx.u g hm) (hx.o.us j g hg) hlt;have exw:=F1.e rfl;subst exw;refine⟨fA (g.scale (-1)),xv,xl,xb,s1,F1,hsc g hm,λL1 hL1=>?_⟩;dsimp only at e1 R1;rw[<-hL1] at e1 R1;obtain⟨yv,zv,yl,yb,s2,F2,e2,R2⟩:=Kr hx R1 hp oM n (up:=true) (hx.u g hm).neg1 (hx.o.us j g hg).scale hlt;refine⟨yv,zv,yl,yb,s2,F2,λL2 hL2=>?_⟩;dsimp only at e2 R2;rw[<-hL2] at e2 R2;refine⟨R2,λr=>?_⟩;show runG n r (j+1) (runS n (runS n ⟨s.q,s.path,L⟩ j false (fA g).f) j true ((fA g).f.scale (-1)))=_;rw[qG,e1,e2]
 have h0:Rw x ⟨s.q,s.path,s.lems⟩ p (c+2*0):=h;have hlen:∀ j L,Rw x ⟨s.q,s.path,L⟩ p (c+2*j)->L.length<=c+2*j:=λj L h=>h.len;obtain⟨RV,hRV⟩:∃ RV:Nat->List Lem->Prop,∀ j L,RV j L=Rw x ⟨s.q,s.path,L⟩ p (c+2*j):=⟨_,λ_ _=>rfl⟩;simp only[<-hRV] at h0 hF hlen;have hrun:s.run n=runG n s.q.g.us 0 ⟨s.q,s.path,s.lems⟩:=rfl;obtain⟨G,hG⟩:∃ G:List A->Nat->List Lem->Scp,∀ r j L,G r j L=runG n r j ⟨s.q,s.path,L⟩:=⟨_,λ_ _ _=>rfl⟩;have hGn:∀ j L,G [] j L=⟨s.q,s.path,L⟩:=λj L=>by rw[hG];rfl
 rw[<-hG] at hrun;simp only[<-hG] at hF;obtain⟨S9,hS9⟩:=ex (s.run n);rw[hS9] at hrun ⊢;have hul:s.q.g.us.length<=4:=by rw[hq];show (List.map fA _).length<=4;rw[y4];exact hx.s.g.us
 clear hS9 hG hRV hsc u1 u2 u3 u4 h hx hq;obtain⟨M1,hM1⟩:=ex (zI ((-1:Int):Rat));obtain⟨⟨⟨n',us,os⟩,⟨lo,hi',rows⟩,⟨ts,c'⟩⟩,path,L0⟩:=s;dsimp only at *;rw[hM1] at cof;rw[hM1] at hF;clear hM1;have hLl:=hlen 0 L0 h0;dsimp only [sv] at *;cbv;refine cA cv ?_;cbv;refine rZ rfl ?_;cbv;refine yC (by decide) ?_;cbv;refine yE (by decide) ?_;cbv;refine aX (σ:=Unit) (λ_=>⟨[(0,iV n),(2,iV 0),(4,.ptr 4 0),(6,.ptr 6 0),(8,.ptr 8 0)],
   [(4,.box [iV n',alv us,alv os,rlv lo,rlv hi',alv rows,tsv ts,zL c'.neg,nat c'.num,nat c'.den,dlv path,llv L0]),(6,.box [iV 0,.nil,.nil,.nil,.nil,.nil,.nil,.ff,.nil,.nil,.nil,.nil]),(8,.box [iV n',alv us,alv os,rlv lo,rlv hi',alv rows,tsv ts,zL c'.neg,nat c'.num,nat c'.den,dlv path,yX 35 6 L0.length]),(35,xF 6 (enc lc L0))]⟩) (λ_=>True) (Wk.sel _ [0,2,4,6] [4,6] rfl) (by cbv) ?_ ?_
 ·cbv
  repeat' first
   |exact trivial
   |(refine bN gF rfl rfl rfl rfl rfl rfl (xE y7 _) (z8 (by simp only[zA];omega) (by simp only[zA];omega)) rfl ?_;cbv)
   |exact⟨(),trivial,.le (by cbv;repeat' first|exact trivial|exact lR|apply And.intro) (by cbv;exact⟨okA,okA,⟨lR,lR,lR,lR,lR,lR,lR,lR,lR,lR,lR,zT rfl (by simp[zA]),trivial⟩,zG rfl,trivial⟩) rfl⟩
   |apply And.intro
 intro _ _;have hRV0:RV 0 L0:=h0;cbv;refine z7 (σ:=Nat×List Lem) (λt=>⟨[(0,iV n),(2,iV 0),(4,.ptr 4 0),(6,.ptr 6 0),(8,.ptr 8 0),(9,iV t.1)],
   [(4,.box [iV n',alv us,alv os,rlv lo,rlv hi',alv rows,tsv ts,zL c'.neg,nat c'.num,nat c'.den,dlv path,llv L0]),(6,.box [iV 0,.nil,.nil,.nil,.nil,.nil,.nil,.ff,.nil,.nil,.nil,.nil]),(8,.box [iV n',alv us,alv os,rlv lo,rlv hi',alv rows,tsv ts,zL c'.neg,nat c'.num,nat c'.den,dlv path,yX 35 6 t.2.length]),(35,.lent 6 (λ_=>enc lc t.2))]⟩)
  (λt=>t.1<=us.length/\G (us.drop t.1) t.1 t.2=S9/\RV t.1 t.2) (λt=>us.length-t.1)
  (0,L0) ⟨xA _,hrun.symm,h0⟩ (.trans (.pub 35 rfl rfl) (.le okZ ?_ rfl)) ?_
 {cbv;exact⟨okA,okA,okA,zG rfl,trivial⟩};intro t ht;obtain⟨j,L⟩:=t;obtain⟨h1,h2,h3⟩:=ht;dsimp only at h1 h2 h3;clear hrun h0 hRV0;have hLl':=hlen j L h3;cbv;refine zF (λh=>?_) (λh=>?_)
 ·(rw[zA] at h;have hlt:j<us.length:=by exact om);obtain⟨pa,hpa⟩:=zS hlt
  (obtain⟨p2,xv,xl,xb,s1,F1,csc,F2⟩:=hF j pa L hpa h3;have c1:=F1.c1;have c3:=F1.c3;have c4:=F1.c4;clear F1 hF hlen h3;rw[zY hpa] at h2;have hT:((enc lc L).drop 0).take L.length=enc lc L:=by rw[wZ,<-zA lc L,v9]);have hfr:0+L.length<=(enc lc L).length:=by rw[zA];omega
  cbv;refine yL hpa j7 cJ ?_;cbv;refine pG 35 rfl (by cbv;repeat' first|exact trivial|exact⟨hfr⟩|apply And.intro) ?_;cbv;refine yJ rfl (by exact⟨lR,⟨lR,lR,lR,lR,lR,lR,lR,lR,lR,lR,lR,zR hT,trivial⟩,okA,trivial⟩) c1 rfl ?_;cbv;refine cA c3 ?_;cbv;refine yB (λex=>?_) (λex=>?_)
  ·cbv;refine pG 35 rfl (by cbv;repeat' first|exact trivial|exact⟨hfr⟩|apply And.intro) ?_;cbv;refine yJ rfl (by exact⟨⟨lR,lR,lR,lR,lR,lR,lR,lR,lR,lR,lR,zR hT,trivial⟩,okA,trivial⟩) c4 rfl ?_;cbv;refine lJ (σ:=List Lem) (λLx=>⟨[(0,iV n),(2,iV 0),(4,.ptr 4 0),(6,.ptr 6 0),(8,.ptr 8 0),(9,iV j),(10,.ptr 10 0),(11,.ptr 11 0),(14,.ptr 14 0)],
     [(4,.box [iV n',alv us,alv os,rlv lo,rlv hi',alv rows,tsv ts,zL c'.neg,nat c'.num,nat c'.den,dlv path,llv L0]),(6,.box [iV 0,.nil,.nil,.nil,.nil,.nil,.nil,.ff,.nil,.nil,.nil,.nil]),(8,.box [iV n',alv us,alv os,rlv lo,rlv hi',alv rows,tsv ts,zL c'.neg,nat c'.num,nat c'.den,dlv path,yX 35 6 Lx.length]),(35,.lent 6 (λ_=>enc lc Lx)),(10,.box [tsv pa.ts,zL pa.c.neg,nat pa.c.num,nat pa.c.den]),(11,.box [zL xv.neg,nat xv.num,nat xv.den]),(14,.box [iV j,.ff,zL xv.neg,nat xv.num,nat xv.den,mlv xl])]⟩)
    (λLx=>Lx=L++xN (xb&&s1) j false xv xl) (λe=>?_) (λe=>?_) (λLx hLx=>?_)
   ·cbv;refine GU ?_;cbv;refine QQ (.lend 35 9 rfl rfl trivial) ?_;cbv;refine nH gF rfl rfl rfl (by simp[zA]) rfl ⟨by simp[zW,xT]⟩ (z8 (by simp[zW] <;> omega) (by simp[zW,zA];exact om)) rfl ?_;cbv;refine⟨L++[⟨j,false,xv,xl⟩],by unfold xN;rw[if_pos (by rw[ex,e];rfl)],.trans (.pub 35 rfl rfl) (.le okZ ?_ rfl)⟩;cbv
    (repeat' first|exact trivial|exact lR|exact zT rfl (by simp[zW,zA])|exact zG (by first|rfl|(rw[jB];rfl))|apply And.intro)
   ·cbv;refine⟨L,by unfold xN;rw[if_neg (by rw[e,Bool.and_false];decide),jV],.le okZ ?_ rfl⟩;cbv
    (repeat' first|exact trivial|exact lR|exact zT rfl (by simp[zW,zA])|exact zG (by first|rfl|(rw[jB];rfl))|apply And.intro)
   ·clear hT hfr;obtain⟨yv,zv,yl,yb,s2,F3,F4⟩:=F2 Lx hLx;have d1:=F3.c1;have d2:=F3.c2 rfl;have d3:=F3.c3;have d4:=F3.c4;have hxl:Lx.length<=c+2*j+1:=by
     (have:(xN (xb&&s1) j false xv xl).length<=1:=by unfold xN;split <;> simp);rw[hLx,gD]
     omega
    (have hT:((enc lc Lx).drop 0).take Lx.length=enc lc Lx:=by rw[wZ,<-zA lc Lx,v9]);have hfr:0+Lx.length<=(enc lc Lx).length:=by rw[zA];omega
    clear F3 F2 hLx c1 c3 c4;cbv;refine vP 12 [(10,11)] (by cbv) (by cbv) (by cbv) ?_;cbv;refine pG 35 rfl (by cbv;repeat' first|exact trivial|exact⟨hfr⟩|apply And.intro) ?_;cbv;refine dA cof ?_;cbv;refine dA csc ?_;cbv;refine xW (by exact⟨lR,⟨lR,lR,lR,lR,lR,lR,lR,lR,lR,lR,lR,zR hT,trivial⟩,okA,trivial⟩) d1 rfl ?_;cbv;refine cA d2 ?_;cbv;refine cA d3 ?_;cbv;refine yB (λey=>?_) (λey=>?_)
    ·cbv;refine pG 35 rfl (by cbv;repeat' first|exact trivial|exact⟨hfr⟩|apply And.intro) ?_;cbv;refine yJ rfl (by exact⟨⟨lR,lR,lR,lR,lR,lR,lR,lR,lR,lR,lR,zR hT,trivial⟩,okA,trivial⟩) d4 rfl ?_;cbv;refine zO (λe=>?_) (λe=>?_)
     ·obtain⟨G1,G2⟩:=F4 (Lx++[⟨j,true,zv,yl⟩]) (by unfold xN;rw[if_pos (by rw[ey,e];rfl)]);have g2:=(G2 _).symm.trans h2;clear F4 G2 h2;cbv;refine GU ?_;cbv;refine QQ (.lend 35 9 rfl rfl trivial) ?_;cbv;refine nH gF rfl rfl rfl (by simp[zA]) rfl ⟨by simp[zW,xT]⟩ (z8 (by simp[zW] <;> omega) (by simp[zW,zA];exact om)) rfl ?_;cbv;refine⟨zD om om,(j+1,Lx++[⟨j,true,zv,yl⟩]),⟨om,g2,G1⟩,om,.trans (.pub 35 rfl rfl) (.le okZ ?_ rfl)⟩;cbv
      (repeat' first|exact trivial|exact lR|exact zT rfl (by simp[zW,zA])|exact zG (by first|rfl|(rw[jB];rfl))|apply And.intro)
     ·obtain⟨G1,G2⟩:=F4 Lx (by unfold xN;rw[if_neg (by rw[e,Bool.and_false];decide),jV]);have g2:=(G2 _).symm.trans h2;clear F4 G2 h2;cbv;refine⟨zD om om,(j+1,Lx),⟨om,g2,G1⟩,om,.le okZ ?_ rfl⟩;cbv
      (repeat' first|exact trivial|exact lR|exact zT rfl (by simp[zW,zA])|exact zG (by first|rfl|(rw[jB];rfl))|apply And.intro)
    ·obtain⟨G1,G2⟩:=F4 Lx (by unfold xN;rw[if_neg (by rw[ey];exact QX),jV]);have g2:=(G2 _).symm.trans h2;clear F4 G2 h2;cbv;refine⟨zD om om,(j+1,Lx),⟨om,g2,G1⟩,om,.le okZ ?_ rfl⟩;cbv
     (repeat' first|exact trivial|exact lR|exact zT rfl (by simp[zW,zA])|exact zG (by first|rfl|(rw[jB];rfl))|apply And.intro)
  ·(have hLx:L=L++xN (xb&&s1) j false xv xl:=by unfold xN;rw[if_neg (by rw[ex];exact QX),jV]);clear hT hfr
   obtain⟨Lx,hLe⟩:∃ Lx,Lx=L:=⟨_,rfl⟩;have hLx:Lx=L++xN (xb&&s1) j false xv xl:=hLe.trans hLx;rw[<-hLe];clear hLe;obtain⟨yv,zv,yl,yb,s2,F3,F4⟩:=F2 Lx hLx;have d1:=F3.c1;have d2:=F3.c2 rfl;have d3:=F3.c3;have d4:=F3.c4;have hxl:Lx.length<=c+2*j+1:=by
    (have:(xN (xb&&s1) j false xv xl).length<=1:=by unfold xN;split <;> simp);rw[hLx,gD]
    omega
   (have hT:((enc lc Lx).drop 0).take Lx.length=enc lc Lx:=by rw[wZ,<-zA lc Lx,v9]);have hfr:0+Lx.length<=(enc lc Lx).length:=by rw[zA];omega
   clear F3 F2 hLx c1 c3 c4;cbv;refine vP 12 [(10,11)] (by cbv) (by cbv) (by cbv) ?_;cbv;refine pG 35 rfl (by cbv;repeat' first|exact trivial|exact⟨hfr⟩|apply And.intro) ?_;cbv;refine dA cof ?_;cbv;refine dA csc ?_;cbv;refine xW (by exact⟨lR,⟨lR,lR,lR,lR,lR,lR,lR,lR,lR,lR,lR,zR hT,trivial⟩,okA,trivial⟩) d1 rfl ?_;cbv;refine cA d2 ?_;cbv;refine cA d3 ?_;cbv;refine yB (λey=>?_) (λey=>?_)
   ·cbv;refine pG 35 rfl (by cbv;repeat' first|exact trivial|exact⟨hfr⟩|apply And.intro) ?_;cbv;refine yJ rfl (by exact⟨⟨lR,lR,lR,lR,lR,lR,lR,lR,lR,lR,lR,zR hT,trivial⟩,okA,trivial⟩) d4 rfl ?_;cbv;refine zO (λe=>?_) (λe=>?_)
    ·obtain⟨G1,G2⟩:=F4 (Lx++[⟨j,true,zv,yl⟩]) (by unfold xN;rw[if_pos (by rw[ey,e];rfl)]);have g2:=(G2 _).symm.trans h2;clear F4 G2 h2;cbv;refine GU ?_;cbv;refine QQ (.lend 35 9 rfl rfl trivial) ?_;cbv;refine nH gF rfl rfl rfl (by simp[zA]) rfl ⟨by simp[zW,xT]⟩ (z8 (by simp[zW] <;> omega) (by simp[zW,zA];exact om)) rfl ?_;cbv;refine⟨zD om om,(j+1,Lx++[⟨j,true,zv,yl⟩]),⟨om,g2,G1⟩,om,.trans (.pub 35 rfl rfl) (.le okZ ?_ rfl)⟩;cbv
     (repeat' first|exact trivial|exact lR|exact zT rfl (by simp[zW,zA])|exact zG (by first|rfl|(rw[jB];rfl))|apply And.intro)
    ·obtain⟨G1,G2⟩:=F4 Lx (by unfold xN;rw[if_neg (by rw[e,Bool.and_false];decide),jV]);have g2:=(G2 _).symm.trans h2;clear F4 G2 h2;cbv;refine⟨zD om om,(j+1,Lx),⟨om,g2,G1⟩,om,.le okZ ?_ rfl⟩;cbv
     (repeat' first|exact trivial|exact lR|exact zT rfl (by simp[zW,zA])|exact zG (by first|rfl|(rw[jB];rfl))|apply And.intro)
   ·obtain⟨G1,G2⟩:=F4 Lx (by unfold xN;rw[if_neg (by rw[ey];exact QX),jV]);have g2:=(G2 _).symm.trans h2;clear F4 G2 h2;cbv;refine⟨zD om om,(j+1,Lx),⟨om,g2,G1⟩,om,.le okZ ?_ rfl⟩;cbv
    (repeat' first|exact trivial|exact lR|exact zT rfl (by simp[zW,zA])|exact zG (by first|rfl|(rw[jB];rfl))|apply And.intro)
 ·(have hj:j=us.length:=by rw[zA] at h;exact om);rw[hj,vE,hGn] at h2
  (subst h2;have hT:((enc lc L).drop 0).take L.length=enc lc L:=by rw[wZ,<-zA lc L,v9]);have hfr:0+L.length<=(enc lc L).length:=by rw[zA];omega
  clear hF hGn h3;cbv;refine pG 35 rfl (by cbv;repeat' first|exact trivial|exact⟨hfr⟩|apply And.intro) ?_;cbv
  (refine rC ?_;cbv)
  exact⟨⟨lR,lR,lR,lR,lR,lR,lR,lR,lR,lR,lR,zR hT,trivial⟩,lR,trivial⟩
end Go.Proofs.YtaeaffgjdcigoaaGreat
