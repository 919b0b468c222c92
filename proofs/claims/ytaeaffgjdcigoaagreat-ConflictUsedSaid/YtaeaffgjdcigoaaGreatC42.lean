/- A part of the proof: KcV. -/
import Derived.Test.YtaeaffgjdcigoaaGreatC39
import Derived.Test.YtaeaffgjdcigoaaGreatC36
set_option linter.all false
namespace Go.Proofs.YtaeaffgjdcigoaaGreat
open Go
set_option maxRecDepth 100000
set_option maxHeartbeats 8000000
theorem zVK (s:Scp)(j:Int)(up:Bool)(o:Option (Rat×List (Row×Rat))):runL s j up o=xI (o.isSome&&s.strg j up (if up=true then -(oV o) else oV o)) j up (zJ (if up=true then -(oV o) else oV o)) (mR (oL o)):=by
 unfold runL xI;cases o with
 |none=>rfl| some v =>
  rw[show (some v:Option (Rat×List (Row×Rat))).isSome=true from rfl,yU];rfl
structure RnF (n:Nat) (q:Qry) (P:List Dec) (j:Nat) (p:A) (up:Bool) (L:List Lem) (xv wv:R) (xl:List Mult) (xb s1:Bool):Prop where
 c1:zE 12 [.int .i64 (fun _=>(n:Int)),sv ⟨q,P,L⟩,av p] (.tup [rv xv,mlv xl,.bool (fun _=>xb)])
 c2:up=true->zE 101 [rv xv] (rv wv)
 c3:zE 98 [rv wv,.int .i64 (fun _=>0),.bool (fun _=>up)] (rv wv)
 c4:zE 99 [sv ⟨q,P,L⟩,lv' ⟨j,up,wv,xl⟩] (.bool (fun _=>s1))
 e:up=false->xv=wv
theorem zJW {x:FQry}(hx:Sq x){s:Scp}{p c j:Nat}(h:Rv x s p c)(hp:p<=1000)(hc:c<=1000)(n:Nat){up:Bool}{f:F}(hf:f.cd 1)(hw:f.wf ((x.g.n+j:Nat):Int))(hj:j<x.g.us.length):∃ xv wv xl xb s1,RnF n s.q s.path j (fA f) up s.lems xv wv xl xb s1/\runS n s j up f=⟨s.q,s.path,s.lems++xI (xb&&s1) j up wv xl⟩/\Rv x ⟨s.q,s.path,s.lems++xI (xb&&s1) j up wv xl⟩ p (c+1):=by
 obtain⟨u1,u2,u3,u4⟩:=h.usz hx hp hc;obtain⟨d1,d2⟩:=zDG hx.s hx.o h.z hx.u hf (by decide) hw oM;have dn:=d2 n;have hus:=hx.s.g.us;have hv:Fits (2^23) (oV (s.dom n f)):=dn.v.mono (vD (iK hx.s.g.n1 hx.s.g.n2 (by omega:j<=4)).2.2.2.2.2.1 (by decide));have c1:=sKdo n s f u1 u2 u3 d1;have hr:=h.runS hx n (up:=up) hf hw hj;have e0:runS n s j up f=⟨s.q,s.path,s.lems++xI ((s.dom n f).isSome&&s.strg j up (if up=true then -(oV (s.dom n f)) else oV (s.dom n f))) j up (zJ (if up=true then -(oV (s.dom n f)) else oV (s.dom n f))) (mR (oL (s.dom n f)))⟩:=by unfold runS;rw[zVK]
 have hw2:Fits (2^23) (if up=true then -(oV (s.dom n f)) else oV (s.dom n f)):=by split;{exact qD hv};{exact hv}
 refine⟨zJ (oV (s.dom n f)),zJ (if up=true then -(oV (s.dom n f)) else oV (s.dom n f)),mR (oL (s.dom n f)),(s.dom n f).isSome,s.strg j up (if up=true then -(oV (s.dom n f)) else oV (s.dom n f)),⟨c1,fun hu=>?_,?_,?_,fun hu=>?_⟩,e0,by rw[<-e0];exact hr⟩;{have:=s143 (zJ (oV (s.dom n f))) ((zU hv).mono (by decide));rw[z6] at this;rw[if_pos hu];exact this};{have:=sKro (zJ (if up=true then -(oV (s.dom n f)) else oV (s.dom n f))) up ((zU hw2).mono (by decide));rw[z6] at this;exact this};{have:=sKst s ⟨j,up,zJ (if up=true then -(oV (s.dom n f)) else oV (s.dom n f)),mR (oL (s.dom n f))⟩ u1.l ((zU hw2).mono (by decide));dsimp only at this;rw[z6] at this;exact this};{rw[hu];rfl}
theorem sKru {x:FQry}(hx:Sq x){s:Scp}{p c:Nat}(h:Rv x s p c)(hp:p<=1000)(hc:c<=900)(n:Nat):zE 37 [.int .i64 (fun _=>(n:Int)),sv s,.int .i64 (fun _=>0)] (.tup [sv (s.run n),.int .i64 (fun _=>0)]):=by
 refine sF Tryz.f37 ?_;obtain⟨u1,u2,u3,u4⟩:=h.usz hx hp oM;have cv:=zG3 s.q (u2.mono (by decide));rw[u1.v] at cv;have cof:=s32 (-1) (by decide) (by decide);have hq:=h.z.g;have hsc:∀ g:F,g∈x.g.us->zE 100 [av (fA g),rv (zJ ((-1:Int):Rat))] (av (fA (g.scale (-1)))):=fun g hg=>by obtain⟨i,hi⟩:=zC9 hg;have hw:=hx.o.us i g hi;have hl:=hw.len;have h1:=hx.s.g.n2;have h2:=hx.s.g.us;have h3:=(wH.1 hi).1;exact dX (q:=-1) (k:=1) (n:=7) ((hx.u g hg).fl hw.cn oM) wZ (by decide) (by decide) (by decide)
 
 have hF:∀ (j:Nat) (pa:A) (L:List Lem),s.q.g.us[j]?=some pa->Rv x ⟨s.q,s.path,L⟩ p (c+2*j)->∃ p2 xv xl xb s1,RnF n s.q s.path j pa false L xv xv xl xb s1/\zE 100 [av pa,rv (zJ ((-1:Int):Rat))] (av p2) /\
   ∀ L1,L1=L++xI (xb&&s1) j false xv xl->∃ yv zv yl yb s2,RnF n s.q s.path j p2 true L1 yv zv yl yb s2 /\
    ∀ L2,L2=L1++xI (yb&&s2) j true zv yl->Rv x ⟨s.q,s.path,L2⟩ p (c+2*(j+1))/\∀ r,runG n (pa::r) j ⟨s.q,s.path,L⟩=runG n r (j+1) ⟨s.q,s.path,L2⟩:=fun j pa L hpa hL=>by
  obtain⟨g,hg,rfl⟩:=zMR hq hpa;have hlt:=(wH.1 hg).1;have hus:=hx.s.g.us;have hm:=yA hg;obtain⟨xv,wv,xl,xb,s1,F1,e1,R1⟩:=zJW hx hL hp oM n (up:=false) (hx.u g hm) (hx.o.us j g hg) hlt;have exw:=F1.e rfl;subst exw;refine⟨fA (g.scale (-1)),xv,xl,xb,s1,F1,hsc g hm,fun L1 hL1=>?_⟩;dsimp only at e1 R1;rw[<-hL1] at e1 R1;obtain⟨yv,zv,yl,yb,s2,F2,e2,R2⟩:=zJW hx R1 hp oM n (up:=true) (hx.u g hm).neg1 (hx.o.us j g hg).scale hlt;refine⟨yv,zv,yl,yb,s2,F2,fun L2 hL2=>?_⟩;dsimp only at e2 R2;rw[<-hL2] at e2 R2;refine⟨R2,fun r=>?_⟩;show runG n r (j+1) (runS n (runS n ⟨s.q,s.path,L⟩ j false (fA g).f) j true ((fA g).f.scale (-1)))=_;rw[kY,e1,e2]
 have h0:Rv x ⟨s.q,s.path,s.lems⟩ p (c+2*0):=h;have hlen:∀ j L,Rv x ⟨s.q,s.path,L⟩ p (c+2*j)->L.length<=c+2*j:=fun j L h=>h.len;obtain⟨RV,hRV⟩:∃ RV:Nat->List Lem->Prop,∀ j L,RV j L=Rv x ⟨s.q,s.path,L⟩ p (c+2*j):=⟨_,fun _ _=>rfl⟩;simp only[<-hRV] at h0 hF hlen;have hrun:s.run n=runG n s.q.g.us 0 ⟨s.q,s.path,s.lems⟩:=rfl;obtain⟨G,hG⟩:∃ G:List A->Nat->List Lem->Scp,∀ r j L,G r j L=runG n r j ⟨s.q,s.path,L⟩:=⟨_,fun _ _ _=>rfl⟩;have hGn:∀ j L,G [] j L=⟨s.q,s.path,L⟩:=fun j L=>by rw[hG];rfl
 rw[<-hG] at hrun;simp only[<-hG] at hF;obtain⟨S9,hS9⟩:∃ X,s.run n=X:=⟨_,rfl⟩;rw[hS9] at hrun ⊢;have hul:s.q.g.us.length<=4:=by rw[hq];show (List.map fA _).length<=4;rw[xA];exact hx.s.g.us
 clear hS9 hG hRV hsc u1 u2 u3 u4 h hx hq;obtain⟨M1,hM1⟩:∃ X,zJ ((-1:Int):Rat)=X:=⟨_,rfl⟩;obtain⟨⟨⟨n',us,os⟩,⟨lo,hi',rows⟩,⟨ts,c'⟩⟩,path,L0⟩:=s;dsimp only at *
 rw[hM1] at cof;rw[hM1] at hF;clear hM1;have hLl:=hlen 0 L0 h0;dsimp only [sv] at *
 cbv;refine cA cv ?_;cbv;refine zG7 rfl ?_;cbv;refine z9 (by decide) ?_;cbv;refine yB (by decide) ?_;cbv;refine pU (σ:=Unit) (fun _=>⟨[(0,.int .i64 (fun _=>(n:Int))),(2,.int .i64 (fun _=>0)),(4,.ptr 4 0),(6,.ptr 6 0),(8,.ptr 8 0)],
   [(4,.box [.int .i64 (fun _=>n'),alv us,alv os,rlv lo,rlv hi',alv rows,tsv ts,.bool (fun _=>c'.neg),nat c'.num,nat c'.den,dlv path,llv L0]),(6,.box [.int .i64 (fun _=>0),.nil,.nil,.nil,.nil,.nil,.nil,.ff,.nil,.nil,.nil,.nil]),(8,.box [.int .i64 (fun _=>n'),alv us,alv os,rlv lo,rlv hi',alv rows,tsv ts,.bool (fun _=>c'.neg),nat c'.num,nat c'.den,dlv path,.osl 35 6 (fun _=>0) (fun _=>L0.length)]),(35,.arr 6 (fun _=>enc lc L0))]⟩) (fun _=>True) (Wk.sel _ [0,2,4,6] [4,6] rfl) (by cbv) ?_ ?_
 ·cbv
  repeat' first
   |exact trivial
   |(refine mU tP rfl rfl rfl rfl rfl rfl (w6 wJ _) (yD (by simp only[zA];omega) (by simp only[zA];omega)) rfl ?_;cbv)
   |exact⟨(),trivial,.le (by cbv;repeat' first|exact trivial|exact lR|apply And.intro) (by cbv;exact⟨okA,okA,⟨lR,lR,lR,lR,lR,lR,lR,lR,lR,lR,lR,yC rfl (by simp[zA]),trivial⟩,zI rfl,trivial⟩) rfl⟩
   |apply And.intro
 intro _ _;have hRV0:RV 0 L0:=h0;cbv;refine z3 (σ:=Nat×List Lem) (fun t=>⟨[(0,.int .i64 (fun _=>(n:Int))),(2,.int .i64 (fun _=>0)),(4,.ptr 4 0),(6,.ptr 6 0),(8,.ptr 8 0),(9,.int .i64 (fun _=>(t.1:Int)))],
   [(4,.box [.int .i64 (fun _=>n'),alv us,alv os,rlv lo,rlv hi',alv rows,tsv ts,.bool (fun _=>c'.neg),nat c'.num,nat c'.den,dlv path,llv L0]),(6,.box [.int .i64 (fun _=>0),.nil,.nil,.nil,.nil,.nil,.nil,.ff,.nil,.nil,.nil,.nil]),(8,.box [.int .i64 (fun _=>n'),alv us,alv os,rlv lo,rlv hi',alv rows,tsv ts,.bool (fun _=>c'.neg),nat c'.num,nat c'.den,dlv path,.osl 35 6 (fun _=>0) (fun _=>t.2.length)]),(35,.lent 6 (fun _=>enc lc t.2))]⟩)
  (fun t=>t.1<=us.length/\G (us.drop t.1) t.1 t.2=S9/\RV t.1 t.2) (fun t=>us.length-t.1)
  (0,L0) ⟨xD _,hrun.symm,h0⟩ (.trans (.pub 35 rfl rfl) (.le okZ ?_ rfl)) ?_
 {cbv;exact⟨okA,okA,okA,zI rfl,trivial⟩};intro t ht;obtain⟨j,L⟩:=t;obtain⟨h1,h2,h3⟩:=ht;dsimp only at h1 h2 h3;clear hrun h0 hRV0;have hLl':=hlen j L h3;cbv;refine zG (fun h=>?_) (fun h=>?_)
 ·(rw[zA] at h;have hlt:j<us.length:=by (try dsimp only [zF] at *);omega);obtain⟨pa,hpa⟩:=zT hlt
  (obtain⟨p2,xv,xl,xb,s1,F1,csc,F2⟩:=hF j pa L hpa h3;have c1:=F1.c1;have c3:=F1.c3;have c4:=F1.c4;clear F1 hF hlen h3;rw[zY hpa] at h2;have hT:((enc lc L).drop 0).take L.length=enc lc L:=by rw[wC,<-zA lc L,v9]);have hfr:0+L.length<=(enc lc L).length:=by rw[zA];omega
  cbv;refine yX hpa gK bK ?_;cbv;refine s8 35 rfl (by cbv;repeat' first|exact trivial|exact⟨hfr⟩|apply And.intro) ?_;cbv;refine yP rfl (by exact⟨lR,⟨lR,lR,lR,lR,lR,lR,lR,lR,lR,lR,lR,zR hT,trivial⟩,okA,trivial⟩) c1 rfl ?_;cbv;refine cA c3 ?_;cbv;refine z7 (fun ex=>?_) (fun ex=>?_)
  ·cbv;refine s8 35 rfl (by cbv;repeat' first|exact trivial|exact⟨hfr⟩|apply And.intro) ?_;cbv;refine yP rfl (by exact⟨⟨lR,lR,lR,lR,lR,lR,lR,lR,lR,lR,lR,zR hT,trivial⟩,okA,trivial⟩) c4 rfl ?_;cbv;refine nZ (σ:=List Lem) (fun Lx=>⟨[(0,.int .i64 (fun _=>(n:Int))),(2,.int .i64 (fun _=>0)),(4,.ptr 4 0),(6,.ptr 6 0),(8,.ptr 8 0),(9,.int .i64 (fun _=>(j:Int))),(10,.ptr 10 0),(11,.ptr 11 0),(14,.ptr 14 0)],
     [(4,.box [.int .i64 (fun _=>n'),alv us,alv os,rlv lo,rlv hi',alv rows,tsv ts,.bool (fun _=>c'.neg),nat c'.num,nat c'.den,dlv path,llv L0]),(6,.box [.int .i64 (fun _=>0),.nil,.nil,.nil,.nil,.nil,.nil,.ff,.nil,.nil,.nil,.nil]),(8,.box [.int .i64 (fun _=>n'),alv us,alv os,rlv lo,rlv hi',alv rows,tsv ts,.bool (fun _=>c'.neg),nat c'.num,nat c'.den,dlv path,.osl 35 6 (fun _=>0) (fun _=>Lx.length)]),(35,.lent 6 (fun _=>enc lc Lx)),(10,.box [tsv pa.ts,.bool (fun _=>pa.c.neg),nat pa.c.num,nat pa.c.den]),(11,.box [.bool (fun _=>xv.neg),nat xv.num,nat xv.den]),(14,.box [.int .i64 (fun _=>(j:Int)),.ff,.bool (fun _=>xv.neg),nat xv.num,nat xv.den,mlv xl])]⟩)
    (fun Lx=>Lx=L++xI (xb&&s1) j false xv xl) (fun e=>?_) (fun e=>?_) (fun Lx hLx=>?_)
   ·cbv;refine zQI ?_;cbv;refine zJC (.lend 35 9 rfl rfl trivial) ?_;cbv;refine mV tP rfl rfl rfl (by simp[zA]) rfl ⟨by simp[zS,wB]⟩ (yD (by simp[zS] <;> omega) (by simp[zS,zA];(try dsimp only [zF] at *);omega)) rfl ?_;cbv;refine⟨L++[⟨j,false,xv,xl⟩],by unfold xI;rw[if_pos (by rw[ex,e];rfl)],.trans (.pub 35 rfl rfl) (.le okZ ?_ rfl)⟩;cbv
    (repeat' first|exact trivial|exact lR|exact yC rfl (by simp[zS,zA])|exact zI (by first|rfl|(rw[kV];rfl))|apply And.intro)
   ·cbv;refine⟨L,by unfold xI;rw[if_neg (by rw[e,Bool.and_false];decide),uU],.le okZ ?_ rfl⟩;cbv
    (repeat' first|exact trivial|exact lR|exact yC rfl (by simp[zS,zA])|exact zI (by first|rfl|(rw[kV];rfl))|apply And.intro)
   ·clear hT hfr;obtain⟨yv,zv,yl,yb,s2,F3,F4⟩:=F2 Lx hLx;have d1:=F3.c1;have d2:=F3.c2 rfl;have d3:=F3.c3;have d4:=F3.c4;have hxl:Lx.length<=c+2*j+1:=by
     (have:(xI (xb&&s1) j false xv xl).length<=1:=by unfold xI;split <;> simp);rw[hLx,qZ]
     omega
    (have hT:((enc lc Lx).drop 0).take Lx.length=enc lc Lx:=by rw[wC,<-zA lc Lx,v9]);have hfr:0+Lx.length<=(enc lc Lx).length:=by rw[zA];omega
    clear F3 F2 hLx c1 c3 c4;cbv;refine vC 12 [(10,11)] (by cbv) (by cbv) (by cbv) ?_;cbv;refine s8 35 rfl (by cbv;repeat' first|exact trivial|exact⟨hfr⟩|apply And.intro) ?_;cbv;refine dA cof ?_;cbv;refine dA csc ?_;cbv;refine x9 (by exact⟨lR,⟨lR,lR,lR,lR,lR,lR,lR,lR,lR,lR,lR,zR hT,trivial⟩,okA,trivial⟩) d1 rfl ?_;cbv;refine cA d2 ?_;cbv;refine cA d3 ?_;cbv;refine z7 (fun ey=>?_) (fun ey=>?_)
    ·cbv;refine s8 35 rfl (by cbv;repeat' first|exact trivial|exact⟨hfr⟩|apply And.intro) ?_;cbv;refine yP rfl (by exact⟨⟨lR,lR,lR,lR,lR,lR,lR,lR,lR,lR,lR,zR hT,trivial⟩,okA,trivial⟩) d4 rfl ?_;cbv;refine zP (fun e=>?_) (fun e=>?_)
     ·obtain⟨G1,G2⟩:=F4 (Lx++[⟨j,true,zv,yl⟩]) (by unfold xI;rw[if_pos (by rw[ey,e];rfl)]);have g2:=(G2 _).symm.trans h2;clear F4 G2 h2;cbv;refine zQI ?_;cbv;refine zJC (.lend 35 9 rfl rfl trivial) ?_;cbv;refine mV tP rfl rfl rfl (by simp[zA]) rfl ⟨by simp[zS,wB]⟩ (yD (by simp[zS] <;> omega) (by simp[zS,zA];(try dsimp only [zF] at *);omega)) rfl ?_;cbv;refine⟨zD om om,(j+1,Lx++[⟨j,true,zv,yl⟩]),⟨om,g2,G1⟩,om,.trans (.pub 35 rfl rfl) (.le okZ ?_ rfl)⟩;cbv
      (repeat' first|exact trivial|exact lR|exact yC rfl (by simp[zS,zA])|exact zI (by first|rfl|(rw[kV];rfl))|apply And.intro)
     ·obtain⟨G1,G2⟩:=F4 Lx (by unfold xI;rw[if_neg (by rw[e,Bool.and_false];decide),uU]);have g2:=(G2 _).symm.trans h2;clear F4 G2 h2;cbv;refine⟨zD om om,(j+1,Lx),⟨om,g2,G1⟩,om,.le okZ ?_ rfl⟩;cbv
      (repeat' first|exact trivial|exact lR|exact yC rfl (by simp[zS,zA])|exact zI (by first|rfl|(rw[kV];rfl))|apply And.intro)
    ·obtain⟨G1,G2⟩:=F4 Lx (by unfold xI;rw[if_neg (by rw[ey];exact zJD),uU]);have g2:=(G2 _).symm.trans h2;clear F4 G2 h2;cbv;refine⟨zD om om,(j+1,Lx),⟨om,g2,G1⟩,om,.le okZ ?_ rfl⟩;cbv
     (repeat' first|exact trivial|exact lR|exact yC rfl (by simp[zS,zA])|exact zI (by first|rfl|(rw[kV];rfl))|apply And.intro)
  ·(have hLx:L=L++xI (xb&&s1) j false xv xl:=by unfold xI;rw[if_neg (by rw[ex];exact zJD),uU]);clear hT hfr
   obtain⟨Lx,hLe⟩:∃ Lx,Lx=L:=⟨_,rfl⟩;have hLx:Lx=L++xI (xb&&s1) j false xv xl:=hLe.trans hLx;rw[<-hLe];clear hLe;obtain⟨yv,zv,yl,yb,s2,F3,F4⟩:=F2 Lx hLx;have d1:=F3.c1;have d2:=F3.c2 rfl;have d3:=F3.c3;have d4:=F3.c4;have hxl:Lx.length<=c+2*j+1:=by
    (have:(xI (xb&&s1) j false xv xl).length<=1:=by unfold xI;split <;> simp);rw[hLx,qZ]
    omega
   (have hT:((enc lc Lx).drop 0).take Lx.length=enc lc Lx:=by rw[wC,<-zA lc Lx,v9]);have hfr:0+Lx.length<=(enc lc Lx).length:=by rw[zA];omega
   clear F3 F2 hLx c1 c3 c4;cbv;refine vC 12 [(10,11)] (by cbv) (by cbv) (by cbv) ?_;cbv;refine s8 35 rfl (by cbv;repeat' first|exact trivial|exact⟨hfr⟩|apply And.intro) ?_;cbv;refine dA cof ?_;cbv;refine dA csc ?_;cbv;refine x9 (by exact⟨lR,⟨lR,lR,lR,lR,lR,lR,lR,lR,lR,lR,lR,zR hT,trivial⟩,okA,trivial⟩) d1 rfl ?_;cbv;refine cA d2 ?_;cbv;refine cA d3 ?_;cbv;refine z7 (fun ey=>?_) (fun ey=>?_)
   ·cbv;refine s8 35 rfl (by cbv;repeat' first|exact trivial|exact⟨hfr⟩|apply And.intro) ?_;cbv;refine yP rfl (by exact⟨⟨lR,lR,lR,lR,lR,lR,lR,lR,lR,lR,lR,zR hT,trivial⟩,okA,trivial⟩) d4 rfl ?_;cbv;refine zP (fun e=>?_) (fun e=>?_)
    ·obtain⟨G1,G2⟩:=F4 (Lx++[⟨j,true,zv,yl⟩]) (by unfold xI;rw[if_pos (by rw[ey,e];rfl)]);have g2:=(G2 _).symm.trans h2;clear F4 G2 h2;cbv;refine zQI ?_;cbv;refine zJC (.lend 35 9 rfl rfl trivial) ?_;cbv;refine mV tP rfl rfl rfl (by simp[zA]) rfl ⟨by simp[zS,wB]⟩ (yD (by simp[zS] <;> omega) (by simp[zS,zA];(try dsimp only [zF] at *);omega)) rfl ?_;cbv;refine⟨zD om om,(j+1,Lx++[⟨j,true,zv,yl⟩]),⟨om,g2,G1⟩,om,.trans (.pub 35 rfl rfl) (.le okZ ?_ rfl)⟩;cbv
     (repeat' first|exact trivial|exact lR|exact yC rfl (by simp[zS,zA])|exact zI (by first|rfl|(rw[kV];rfl))|apply And.intro)
    ·obtain⟨G1,G2⟩:=F4 Lx (by unfold xI;rw[if_neg (by rw[e,Bool.and_false];decide),uU]);have g2:=(G2 _).symm.trans h2;clear F4 G2 h2;cbv;refine⟨zD om om,(j+1,Lx),⟨om,g2,G1⟩,om,.le okZ ?_ rfl⟩;cbv
     (repeat' first|exact trivial|exact lR|exact yC rfl (by simp[zS,zA])|exact zI (by first|rfl|(rw[kV];rfl))|apply And.intro)
   ·obtain⟨G1,G2⟩:=F4 Lx (by unfold xI;rw[if_neg (by rw[ey];exact zJD),uU]);have g2:=(G2 _).symm.trans h2;clear F4 G2 h2;cbv;refine⟨zD om om,(j+1,Lx),⟨om,g2,G1⟩,om,.le okZ ?_ rfl⟩;cbv
    (repeat' first|exact trivial|exact lR|exact yC rfl (by simp[zS,zA])|exact zI (by first|rfl|(rw[kV];rfl))|apply And.intro)
 ·(have hj:j=us.length:=by rw[zA] at h;(try dsimp only [zF] at *);omega);rw[hj,w4,hGn] at h2
  (subst h2;have hT:((enc lc L).drop 0).take L.length=enc lc L:=by rw[wC,<-zA lc L,v9]);have hfr:0+L.length<=(enc lc L).length:=by rw[zA];omega
  clear hF hGn h3;cbv;refine s8 35 rfl (by cbv;repeat' first|exact trivial|exact⟨hfr⟩|apply And.intro) ?_;cbv
  (refine rC ?_;cbv)
  exact⟨⟨lR,lR,lR,lR,lR,lR,lR,lR,lR,lR,lR,zR hT,trivial⟩,lR,trivial⟩
end Go.Proofs.YtaeaffgjdcigoaaGreat
