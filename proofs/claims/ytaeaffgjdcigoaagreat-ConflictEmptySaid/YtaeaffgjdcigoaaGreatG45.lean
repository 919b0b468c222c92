/- A part of the proof: KcV. -/
import Derived.Test.YtaeaffgjdcigoaaGreatG35
import Derived.Test.YtaeaffgjdcigoaaGreatG33
set_option linter.all false
namespace Go.Proofs.YtaeaffgjdcigoaaGreat
open Go
set_option maxRecDepth 100000
set_option maxHeartbeats 8000000
def RF (s:Scp)(j:Int)(up:Bool)(o:Option (Rat×List (Row×Rat))):runL s j up o=xJ (o.isSome&&s.strg j up (if up=true then -(oVq o) else oVq o)) j up (zG (if up=true then -(oVq o) else oVq o)) (mR (oL o)):=by
 unfold runL xJ;cases o with
 |none=>rfl| some v =>
  rw[show (some v:Option (Rat×List (Row×Rat))).isSome=true from rfl,yN];rfl
structure RnF (n:Nat) (q:Qry) (P:List Dec) (j:Nat) (p:A) (up:Bool) (L:List Lem) (xv wv:R) (xl:List Mult) (xb s1:Bool):Prop where
 c1:zD 12 [iV n,sv ⟨q,P,L⟩,av p] (.tup [rv xv,mlv xl,bV xb])
 c2:up=true->zD 101 [rv xv] (rv wv)
 c3:zD 98 [rv wv,iV 0,bV up] (rv wv)
 c4:zD 99 [sv ⟨q,P,L⟩,lv' ⟨j,up,wv,xl⟩] (bV s1)
 e:up=false->xv=wv
def KV {x:FQry}(hx:Sq x){s:Scp}{p c j:Nat}(h:Rv x s p c)(hp:p<=1000)(hc:c<=1000)(n:Nat){up:Bool}{f:F}(hf:f.cd 1)(hw:f.wf ((x.g.n+j:Nat):Int))(hj:j<x.g.us.length):∃ xv wv xl xb s1,RnF n s.q s.path j (fA f) up s.lems xv wv xl xb s1/\runS n s j up f=⟨s.q,s.path,s.lems++xJ (xb&&s1) j up wv xl⟩/\Rv x ⟨s.q,s.path,s.lems++xJ (xb&&s1) j up wv xl⟩ p (c+1):=by
 obtain⟨u1,u2,u3,u4⟩:=h.usz hx hp hc;obtain⟨d1,d2⟩:=Q5 hx.s hx.o h.z hx.u hf (by decide) hw oM;have dn:=d2 n;have hus:=hx.s.g.us;have hv:Fits (2^23) (oVq (s.dom n f)):=dn.v.mono (vR (eE hx.s.g.n1 hx.s.g.n2 (by omega:j<=4)).2.2.2.2.2.1 (by decide));have c1:=La n s f u1 u2 u3 d1;have hr:=h.runS hx n (up:=up) hf hw hj;have e0:runS n s j up f=⟨s.q,s.path,s.lems++xJ ((s.dom n f).isSome&&s.strg j up (if up=true then -(oVq (s.dom n f)) else oVq (s.dom n f))) j up (zG (if up=true then -(oVq (s.dom n f)) else oVq (s.dom n f))) (mR (oL (s.dom n f)))⟩:=by unfold runS;rw[RF]
 have hw2:Fits (2^23) (if up=true then -(oVq (s.dom n f)) else oVq (s.dom n f)):=by split;{exact qE hv};{exact hv}
 refine⟨zG (oVq (s.dom n f)),zG (if up=true then -(oVq (s.dom n f)) else oVq (s.dom n f)),mR (oL (s.dom n f)),(s.dom n f).isSome,s.strg j up (if up=true then -(oVq (s.dom n f)) else oVq (s.dom n f)),⟨c1,λhu=>?_,?_,?_,λhu=>?_⟩,e0,by rw[<-e0];exact hr⟩;{have:=C4 (zG (oVq (s.dom n f))) ((zT hv).mono (by decide));rw[zV] at this;rw[if_pos hu];exact this};{have:=ED (zG (if up=true then -(oVq (s.dom n f)) else oVq (s.dom n f))) up ((zT hw2).mono (by decide));rw[zV] at this;exact this};{have:=EA s ⟨j,up,zG (if up=true then -(oVq (s.dom n f)) else oVq (s.dom n f)),mR (oL (s.dom n f))⟩ u1.l ((zT hw2).mono (by decide));dsimp only at this;rw[zV] at this;exact this};{rw[hu];rfl}
def Mj {x:FQry}(hx:Sq x){s:Scp}{p c:Nat}(h:Rv x s p c)(hp:p<=1000)(hc:c<=900)(n:Nat):zD 37 [iV n,sv s,iV 0] (.tup [sv (s.run n),iV 0]):=by
 refine sF Tryz.f37 ?_;obtain⟨u1,u2,u3,u4⟩:=h.usz hx hp oM;have cv:=oK s.q (u2.mono (by decide));rw[u1.v] at cv;have cof:=s32 (-1) (by decide) (by decide);have hq:=h.z.g;have hsc:∀ g:F,g∈x.g.us->zD 100 [av (fA g),rv (zG ((-1:Int):Rat))] (av (fA (g.scale (-1)))):=λg hg=>by obtain⟨i,hi⟩:=rK hg;have hw:=hx.o.us i g hi;have hl:=hw.len;have h1:=hx.s.g.n2;have h2:=hx.s.g.us;have h3:=(xP.1 hi).1;exact fO (q:=-1) (k:=1) (n:=7) ((hx.u g hg).fl hw.cn oM) wI (by decide) (by decide) (by decide)
 
 have hF:∀ (j:Nat) (pa:A) (L:List Lem),s.q.g.us[j]?=some pa->Rv x ⟨s.q,s.path,L⟩ p (c+2*j)->∃ p2 xv xl xb s1,RnF n s.q s.path j pa false L xv xv xl xb s1/\zD 100 [av pa,rv (zG ((-1:Int):Rat))] (av p2) /\
   ∀ L1,L1=L++xJ (xb&&s1) j false xv xl->∃ yv zv yl yb s2,RnF n s.q s.path j p2 true L1 yv zv yl yb s2 /\
    ∀ L2,L2=L1++xJ (yb&&s2) j true zv yl->Rv x ⟨s.q,s.path,L2⟩ p (c+2*(j+1))/\∀ r,runG n (pa::r) j ⟨s.q,s.path,L⟩=runG n r (j+1) ⟨s.q,s.path,L2⟩:=λj pa L hpa hL=>by
  obtain⟨g,hg,rfl⟩:=Hp hq hpa;have hlt:=(xP.1 hg).1;have hus:=hx.s.g.us;have hm:=zX hg;obtain⟨xv,wv,xl,xb,s1,F1,e1,R1⟩:=KV hx hL hp oM n (up:=false) (hx.u g hm) (hx.o.us j g hg) hlt;have exw:=F1.e rfl;subst exw;refine⟨fA (g.scale (-1)),xv,xl,xb,s1,F1,hsc g hm,λL1 hL1=>?_⟩;dsimp only at e1 R1;rw[<-hL1] at e1 R1;obtain⟨yv,zv,yl,yb,s2,F2,e2,R2⟩:=KV hx R1 hp oM n (up:=true) (hx.u g hm).neg1 (hx.o.us j g hg).scale hlt;refine⟨yv,zv,yl,yb,s2,F2,λL2 hL2=>?_⟩;dsimp only at e2 R2;rw[<-hL2] at e2 R2;refine⟨R2,λr=>?_⟩;show runG n r (j+1) (runS n (runS n ⟨s.q,s.path,L⟩ j false (fA g).f) j true ((fA g).f.scale (-1)))=_;rw[qP,e1,e2]
 have h0:Rv x ⟨s.q,s.path,s.lems⟩ p (c+2*0):=h;have hlen:∀ j L,Rv x ⟨s.q,s.path,L⟩ p (c+2*j)->L.length<=c+2*j:=λj L h=>h.len;obtain⟨RV,hRV⟩:∃ RV:Nat->List Lem->Prop,∀ j L,RV j L=Rv x ⟨s.q,s.path,L⟩ p (c+2*j):=⟨_,λ_ _=>rfl⟩;simp only[<-hRV] at h0 hF hlen;have hrun:s.run n=runG n s.q.g.us 0 ⟨s.q,s.path,s.lems⟩:=rfl;obtain⟨G,hG⟩:∃ G:List A->Nat->List Lem->Scp,∀ r j L,G r j L=runG n r j ⟨s.q,s.path,L⟩:=⟨_,λ_ _ _=>rfl⟩;have hGn:∀ j L,G [] j L=⟨s.q,s.path,L⟩:=λj L=>by rw[hG];rfl
 rw[<-hG] at hrun;simp only[<-hG] at hF;obtain⟨S9,hS9⟩:=ex (s.run n);rw[hS9] at hrun ⊢;have hul:s.q.g.us.length<=4:=by rw[hq];show (List.map fA _).length<=4;rw[y8];exact hx.s.g.us
 clear hS9 hG hRV hsc u1 u2 u3 u4 h hx hq;obtain⟨M1,hM1⟩:=ex (zG ((-1:Int):Rat));obtain⟨⟨⟨n',us,os⟩,⟨lo,hi',rows⟩,⟨ts,c'⟩⟩,path,L0⟩:=s;dsimp only at *;rw[hM1] at cof;rw[hM1] at hF;clear hM1;have hLl:=hlen 0 L0 h0;dsimp only [sv] at *;cbv;refine cA cv ?_;cbv;refine rR rfl ?_;cbv;refine yC (by decide) ?_;cbv;refine yE (by decide) ?_;cbv;refine rN (σ:=Unit) (λ_=>⟨[(0,iV n),(2,iV 0),(4,.ptr 4 0),(6,.ptr 6 0),(8,.ptr 8 0)],
   [(4,.box [iV n',alv us,alv os,rlv lo,rlv hi',alv rows,tsv ts,bV c'.neg,nat c'.num,nat c'.den,dlv path,llv L0]),(6,.box [iV 0,.nil,.nil,.nil,.nil,.nil,.nil,.ff,.nil,.nil,.nil,.nil]),(8,.box [iV n',alv us,alv os,rlv lo,rlv hi',alv rows,tsv ts,bV c'.neg,nat c'.num,nat c'.den,dlv path,oV 35 6 L0.length]),(35,aV 6 (enc lc L0))]⟩) (λ_=>True) (Wk.sel _ [0,2,4,6] [4,6] rfl) (by cbv) ?_ ?_
 ·cbv
  repeat' first
   |exact trivial
   |(refine s4 tE rfl rfl rfl rfl rfl rfl (wJ xD _) (z5 (by simp only[zA];omega) (by simp only[zA];omega)) rfl ?_;cbv)
   |exact⟨(),trivial,.le (by cbv;repeat' first|exact trivial|exact lR|apply And.intro) (by cbv;exact⟨okA,okA,⟨lR,lR,lR,lR,lR,lR,lR,lR,lR,lR,lR,zZ rfl (by simp[zA]),trivial⟩,zH rfl,trivial⟩) rfl⟩
   |apply And.intro
 intro _ _;have hRV0:RV 0 L0:=h0;cbv;refine zW (σ:=Nat×List Lem) (λt=>⟨[(0,iV n),(2,iV 0),(4,.ptr 4 0),(6,.ptr 6 0),(8,.ptr 8 0),(9,iV t.1)],
   [(4,.box [iV n',alv us,alv os,rlv lo,rlv hi',alv rows,tsv ts,bV c'.neg,nat c'.num,nat c'.den,dlv path,llv L0]),(6,.box [iV 0,.nil,.nil,.nil,.nil,.nil,.nil,.ff,.nil,.nil,.nil,.nil]),(8,.box [iV n',alv us,alv os,rlv lo,rlv hi',alv rows,tsv ts,bV c'.neg,nat c'.num,nat c'.den,dlv path,oV 35 6 t.2.length]),(35,.lent 6 (λ_=>enc lc t.2))]⟩)
  (λt=>t.1<=us.length/\G (us.drop t.1) t.1 t.2=S9/\RV t.1 t.2) (λt=>us.length-t.1)
  (0,L0) ⟨yU _,hrun.symm,h0⟩ (.trans (.pub 35 rfl rfl) (.le okZ ?_ rfl)) ?_
 {cbv;exact⟨okA,okA,okA,zH rfl,trivial⟩};intro t ht;obtain⟨j,L⟩:=t;obtain⟨h1,h2,h3⟩:=ht;dsimp only at h1 h2 h3;clear hrun h0 hRV0;have hLl':=hlen j L h3;cbv;refine zE (λh=>?_) (λh=>?_)
 ·(rw[zA] at h;have hlt:j<us.length:=by exact om);obtain⟨pa,hpa⟩:=zO hlt
  (obtain⟨p2,xv,xl,xb,s1,F1,csc,F2⟩:=hF j pa L hpa h3;have c1:=F1.c1;have c3:=F1.c3;have c4:=F1.c4;clear F1 hF hlen h3;rw[zU hpa] at h2;have hT:((enc lc L).drop 0).take L.length=enc lc L:=by rw[xM,<-zA lc L,wW]);have hfr:0+L.length<=(enc lc L).length:=by rw[zA];omega
  cbv;refine yB hpa qS j6 ?_;cbv;refine r8 35 rfl (by cbv;repeat' first|exact trivial|exact⟨hfr⟩|apply And.intro) ?_;cbv;refine yP rfl (by exact⟨lR,⟨lR,lR,lR,lR,lR,lR,lR,lR,lR,lR,lR,zS hT,trivial⟩,okA,trivial⟩) c1 rfl ?_;cbv;refine cA c3 ?_;cbv;refine yA (λex=>?_) (λex=>?_)
  ·cbv;refine r8 35 rfl (by cbv;repeat' first|exact trivial|exact⟨hfr⟩|apply And.intro) ?_;cbv;refine yP rfl (by exact⟨⟨lR,lR,lR,lR,lR,lR,lR,lR,lR,lR,lR,zS hT,trivial⟩,okA,trivial⟩) c4 rfl ?_;cbv;refine lT (σ:=List Lem) (λLx=>⟨[(0,iV n),(2,iV 0),(4,.ptr 4 0),(6,.ptr 6 0),(8,.ptr 8 0),(9,iV j),(10,.ptr 10 0),(11,.ptr 11 0),(14,.ptr 14 0)],
     [(4,.box [iV n',alv us,alv os,rlv lo,rlv hi',alv rows,tsv ts,bV c'.neg,nat c'.num,nat c'.den,dlv path,llv L0]),(6,.box [iV 0,.nil,.nil,.nil,.nil,.nil,.nil,.ff,.nil,.nil,.nil,.nil]),(8,.box [iV n',alv us,alv os,rlv lo,rlv hi',alv rows,tsv ts,bV c'.neg,nat c'.num,nat c'.den,dlv path,oV 35 6 Lx.length]),(35,.lent 6 (λ_=>enc lc Lx)),(10,.box [tsv pa.ts,bV pa.c.neg,nat pa.c.num,nat pa.c.den]),(11,.box [bV xv.neg,nat xv.num,nat xv.den]),(14,.box [iV j,.ff,bV xv.neg,nat xv.num,nat xv.den,mlv xl])]⟩)
    (λLx=>Lx=L++xJ (xb&&s1) j false xv xl) (λe=>?_) (λe=>?_) (λLx hLx=>?_)
   ·cbv;refine Fy ?_;cbv;refine Kf (.lend 35 9 rfl rfl trivial) ?_;cbv;refine p7 tE rfl rfl rfl (by simp[zA]) rfl ⟨by simp[zL,xE]⟩ (z5 (by simp[zL] <;> omega) (by simp[zL,zA];exact om)) rfl ?_;cbv;refine⟨L++[⟨j,false,xv,xl⟩],by unfold xJ;rw[if_pos (by rw[ex,e];rfl)],.trans (.pub 35 rfl rfl) (.le okZ ?_ rfl)⟩;cbv
    (repeat' first|exact trivial|exact lR|exact zZ rfl (by simp[zL,zA])|exact zH (by first|rfl|(rw[kR];rfl))|apply And.intro)
   ·cbv;refine⟨L,by unfold xJ;rw[if_neg (by rw[e,Bool.and_false];decide),kN],.le okZ ?_ rfl⟩;cbv
    (repeat' first|exact trivial|exact lR|exact zZ rfl (by simp[zL,zA])|exact zH (by first|rfl|(rw[kR];rfl))|apply And.intro)
   ·clear hT hfr;obtain⟨yv,zv,yl,yb,s2,F3,F4⟩:=F2 Lx hLx;have d1:=F3.c1;have d2:=F3.c2 rfl;have d3:=F3.c3;have d4:=F3.c4;have hxl:Lx.length<=c+2*j+1:=by
     (have:(xJ (xb&&s1) j false xv xl).length<=1:=by unfold xJ;split <;> simp);rw[hLx,bU]
     omega
    (have hT:((enc lc Lx).drop 0).take Lx.length=enc lc Lx:=by rw[xM,<-zA lc Lx,wW]);have hfr:0+Lx.length<=(enc lc Lx).length:=by rw[zA];omega
    clear F3 F2 hLx c1 c3 c4;cbv;refine vD 12 [(10,11)] (by cbv) (by cbv) (by cbv) ?_;cbv;refine r8 35 rfl (by cbv;repeat' first|exact trivial|exact⟨hfr⟩|apply And.intro) ?_;cbv;refine dA cof ?_;cbv;refine dA csc ?_;cbv;refine wB (by exact⟨lR,⟨lR,lR,lR,lR,lR,lR,lR,lR,lR,lR,lR,zS hT,trivial⟩,okA,trivial⟩) d1 rfl ?_;cbv;refine cA d2 ?_;cbv;refine cA d3 ?_;cbv;refine yA (λey=>?_) (λey=>?_)
    ·cbv;refine r8 35 rfl (by cbv;repeat' first|exact trivial|exact⟨hfr⟩|apply And.intro) ?_;cbv;refine yP rfl (by exact⟨⟨lR,lR,lR,lR,lR,lR,lR,lR,lR,lR,lR,zS hT,trivial⟩,okA,trivial⟩) d4 rfl ?_;cbv;refine zP (λe=>?_) (λe=>?_)
     ·obtain⟨G1,G2⟩:=F4 (Lx++[⟨j,true,zv,yl⟩]) (by unfold xJ;rw[if_pos (by rw[ey,e];rfl)]);have g2:=(G2 _).symm.trans h2;clear F4 G2 h2;cbv;refine Fy ?_;cbv;refine Kf (.lend 35 9 rfl rfl trivial) ?_;cbv;refine p7 tE rfl rfl rfl (by simp[zA]) rfl ⟨by simp[zL,xE]⟩ (z5 (by simp[zL] <;> omega) (by simp[zL,zA];exact om)) rfl ?_;cbv;refine⟨zC om om,(j+1,Lx++[⟨j,true,zv,yl⟩]),⟨om,g2,G1⟩,om,.trans (.pub 35 rfl rfl) (.le okZ ?_ rfl)⟩;cbv
      (repeat' first|exact trivial|exact lR|exact zZ rfl (by simp[zL,zA])|exact zH (by first|rfl|(rw[kR];rfl))|apply And.intro)
     ·obtain⟨G1,G2⟩:=F4 Lx (by unfold xJ;rw[if_neg (by rw[e,Bool.and_false];decide),kN]);have g2:=(G2 _).symm.trans h2;clear F4 G2 h2;cbv;refine⟨zC om om,(j+1,Lx),⟨om,g2,G1⟩,om,.le okZ ?_ rfl⟩;cbv
      (repeat' first|exact trivial|exact lR|exact zZ rfl (by simp[zL,zA])|exact zH (by first|rfl|(rw[kR];rfl))|apply And.intro)
    ·obtain⟨G1,G2⟩:=F4 Lx (by unfold xJ;rw[if_neg (by rw[ey];exact Vs),kN]);have g2:=(G2 _).symm.trans h2;clear F4 G2 h2;cbv;refine⟨zC om om,(j+1,Lx),⟨om,g2,G1⟩,om,.le okZ ?_ rfl⟩;cbv
     (repeat' first|exact trivial|exact lR|exact zZ rfl (by simp[zL,zA])|exact zH (by first|rfl|(rw[kR];rfl))|apply And.intro)
  ·(have hLx:L=L++xJ (xb&&s1) j false xv xl:=by unfold xJ;rw[if_neg (by rw[ex];exact Vs),kN]);clear hT hfr
   obtain⟨Lx,hLe⟩:∃ Lx,Lx=L:=⟨_,rfl⟩;have hLx:Lx=L++xJ (xb&&s1) j false xv xl:=hLe.trans hLx;rw[<-hLe];clear hLe;obtain⟨yv,zv,yl,yb,s2,F3,F4⟩:=F2 Lx hLx;have d1:=F3.c1;have d2:=F3.c2 rfl;have d3:=F3.c3;have d4:=F3.c4;have hxl:Lx.length<=c+2*j+1:=by
    (have:(xJ (xb&&s1) j false xv xl).length<=1:=by unfold xJ;split <;> simp);rw[hLx,bU]
    omega
   (have hT:((enc lc Lx).drop 0).take Lx.length=enc lc Lx:=by rw[xM,<-zA lc Lx,wW]);have hfr:0+Lx.length<=(enc lc Lx).length:=by rw[zA];omega
   clear F3 F2 hLx c1 c3 c4;cbv;refine vD 12 [(10,11)] (by cbv) (by cbv) (by cbv) ?_;cbv;refine r8 35 rfl (by cbv;repeat' first|exact trivial|exact⟨hfr⟩|apply And.intro) ?_;cbv;refine dA cof ?_;cbv;refine dA csc ?_;cbv;refine wB (by exact⟨lR,⟨lR,lR,lR,lR,lR,lR,lR,lR,lR,lR,lR,zS hT,trivial⟩,okA,trivial⟩) d1 rfl ?_;cbv;refine cA d2 ?_;cbv;refine cA d3 ?_;cbv;refine yA (λey=>?_) (λey=>?_)
   ·cbv;refine r8 35 rfl (by cbv;repeat' first|exact trivial|exact⟨hfr⟩|apply And.intro) ?_;cbv;refine yP rfl (by exact⟨⟨lR,lR,lR,lR,lR,lR,lR,lR,lR,lR,lR,zS hT,trivial⟩,okA,trivial⟩) d4 rfl ?_;cbv;refine zP (λe=>?_) (λe=>?_)
    ·obtain⟨G1,G2⟩:=F4 (Lx++[⟨j,true,zv,yl⟩]) (by unfold xJ;rw[if_pos (by rw[ey,e];rfl)]);have g2:=(G2 _).symm.trans h2;clear F4 G2 h2;cbv;refine Fy ?_;cbv;refine Kf (.lend 35 9 rfl rfl trivial) ?_;cbv;refine p7 tE rfl rfl rfl (by simp[zA]) rfl ⟨by simp[zL,xE]⟩ (z5 (by simp[zL] <;> omega) (by simp[zL,zA];exact om)) rfl ?_;cbv;refine⟨zC om om,(j+1,Lx++[⟨j,true,zv,yl⟩]),⟨om,g2,G1⟩,om,.trans (.pub 35 rfl rfl) (.le okZ ?_ rfl)⟩;cbv
     (repeat' first|exact trivial|exact lR|exact zZ rfl (by simp[zL,zA])|exact zH (by first|rfl|(rw[kR];rfl))|apply And.intro)
    ·obtain⟨G1,G2⟩:=F4 Lx (by unfold xJ;rw[if_neg (by rw[e,Bool.and_false];decide),kN]);have g2:=(G2 _).symm.trans h2;clear F4 G2 h2;cbv;refine⟨zC om om,(j+1,Lx),⟨om,g2,G1⟩,om,.le okZ ?_ rfl⟩;cbv
     (repeat' first|exact trivial|exact lR|exact zZ rfl (by simp[zL,zA])|exact zH (by first|rfl|(rw[kR];rfl))|apply And.intro)
   ·obtain⟨G1,G2⟩:=F4 Lx (by unfold xJ;rw[if_neg (by rw[ey];exact Vs),kN]);have g2:=(G2 _).symm.trans h2;clear F4 G2 h2;cbv;refine⟨zC om om,(j+1,Lx),⟨om,g2,G1⟩,om,.le okZ ?_ rfl⟩;cbv
    (repeat' first|exact trivial|exact lR|exact zZ rfl (by simp[zL,zA])|exact zH (by first|rfl|(rw[kR];rfl))|apply And.intro)
 ·(have hj:j=us.length:=by rw[zA] at h;exact om);rw[hj,wD,hGn] at h2
  (subst h2;have hT:((enc lc L).drop 0).take L.length=enc lc L:=by rw[xM,<-zA lc L,wW]);have hfr:0+L.length<=(enc lc L).length:=by rw[zA];omega
  clear hF hGn h3;cbv;refine r8 35 rfl (by cbv;repeat' first|exact trivial|exact⟨hfr⟩|apply And.intro) ?_;cbv
  (refine rC ?_;cbv)
  exact⟨⟨lR,lR,lR,lR,lR,lR,lR,lR,lR,lR,lR,zS hT,trivial⟩,lR,trivial⟩
end Go.Proofs.YtaeaffgjdcigoaaGreat
