/- A part of the proof: KcY. -/
import Derived.Test.YtaeaffgjdcigoaaGreatC45
import Derived.Test.YtaeaffgjdcigoaaGreatC43
import Derived.Test.YtaeaffgjdcigoaaGreatC37
set_option linter.all false
namespace Go.Proofs.YtaeaffgjdcigoaaGreat
open Go
set_option maxRecDepth 100000
set_option maxHeartbeats 8000000
theorem zWC (raw:List UInt8):Cv (fdY raw 0).1 (clo raw) 7 32/\DomR (fH raw) (2^13) (2^16) (clsO raw):=by
 have hx:=rA raw;have hgl:(fH raw).q.goal=fA (fdY raw 0).1.goal:=by rw[(zAB raw).q];rfl
 have d3:=(zKP raw).2 2;have eO:(fH raw).dom 2 (fdY raw 0).1.goal=clsO raw:=by unfold clsO;rw[hgl,kY]
 rw[eO] at d3;exact⟨zZV raw d3.v,d3⟩
theorem zYN (raw form:List UInt8)(w:UInt8)(h1:raw.length<=9223372036854775807)(h2:form.length<=9223372036854775807):zE 3 [u8v raw,u8v form,.int .u8 (fun _=>(w.toNat:Int))] (.bool (fun _=>true)):=by
 refine sF Tryz.f3 ?_;have ca:=yAJ;have hx:=rA raw;have hus:=hx.s.g.us;have hn2:=hx.s.g.n2;obtain⟨cv,_⟩:=zWC raw;obtain⟨u1,u2,u3,u4,u5⟩:=cv.usz (by decide) (by decide);have ccl:raw.length<2^38->zE 11 [u8v raw] (.tup [sv (clo raw),mlv (mR (cloL raw))]):=fun h=>sKcl raw h;have hvars:(clo raw).q.g.vars=(((fdY raw 0).1.g.n+(fdY raw 0).1.g.us.length:Nat):Int):=by rw[cv.z.g];show (((fdY raw 0).1.g.n:Int))+(((fdY raw 0).1.g.us.map fA).length:Int)=_;rw[xA];omega
 have hgv:(clo raw).q.g.valid=true:=by have:=cv.v;unfold Qry.valid at this;simp only[yT] at this;exact this.1.1
 obtain⟨NV,hNV⟩:∃ n,(fdY raw 0).1.g.n+(fdY raw 0).1.g.us.length=n:=⟨_,rfl⟩;have cf:form.length<2^38->zE 13 [u8v form,gv (clo raw).q.g] (fv (fdF form NV 0).1):=fun h=>yAF form (clo raw).q.g NV h (u2.g.mono (by decide)) hgv (by rw[hvars,hNV]) oM;obtain⟨d1,d2⟩:=zDG hx.s hx.o cv.z hx.u (zND form NV 0) (by decide) (f:=(fdF form NV 0).1) (by rw[hNV];exact zNC form NV 0) (zZ _);have cd:=sKdo (w.toNat%3) (clo raw) (fdF form NV 0).1 u1 u2 u3 d1;have dr:=d2 (w.toNat%3);have hl:∀ m,m∈mR (oL ((clo raw).dom (w.toNat%3) (fdF form NV 0).1))->RoIn (clo raw) m.row:=fun m hm=>by obtain⟨t,ht,rfl⟩:=y8.1 hm;exact dr.r t ht
 have hln:(mR (oL ((clo raw).dom (w.toNat%3) (fdF form NV 0).1))).length<=20:=by rw[j1];exact dr.len
 have cu:=cv.used (by decide) (by decide) hl oM;have cm:=sKms (clo raw) (mR (oL ((clo raw).dom (w.toNat%3) (fdF form NV 0).1))) u5 oM (by have:=cv.len;omega) (fun m hm=>by have:=(cv.l m hm).2.2;omega);obtain⟨m1,m2,_,_⟩:=zCL cv.backs (mR (oL ((clo raw).dom (w.toNat%3) (fdF form NV 0).1)));have hpl:=cv.pl;have hll:=cv.len;have ci1:=sKix ((clo raw).marks (mR (oL ((clo raw).dom (w.toNat%3) (fdF form NV 0).1)))).1 oM;have ci2:=sKix ((clo raw).marks (mR (oL ((clo raw).dom (w.toNat%3) (fdF form NV 0).1)))).2 oM;have b1:=zAQ ((clo raw).marks (mR (oL ((clo raw).dom (w.toNat%3) (fdF form NV 0).1)))).1 ((clo raw).marks (mR (oL ((clo raw).dom (w.toNat%3) (fdF form NV 0).1)))).1.length;have b2:=zAQ ((clo raw).marks (mR (oL ((clo raw).dom (w.toNat%3) (fdF form NV 0).1)))).2 ((clo raw).marks (mR (oL ((clo raw).dom (w.toNat%3) (fdF form NV 0).1)))).2.length;have cs1:=sKsi (uY ((clo raw).marks (mR (oL ((clo raw).dom (w.toNat%3) (fdF form NV 0).1)))).1) (uY ((clo raw).marks (mR (oL ((clo raw).dom (w.toNat%3) (fdF form NV 0).1)))).1) (by unfold uY;omega) (by unfold uY;omega);have cs2:=sKsi (uY ((clo raw).marks (mR (oL ((clo raw).dom (w.toNat%3) (fdF form NV 0).1)))).2) (uY ((clo raw).marks (mR (oL ((clo raw).dom (w.toNat%3) (fdF form NV 0).1)))).2) (by unfold uY;omega) (by unfold uY;omega);rw[decide_eq_true rfl] at cs1 cs2;have hk:irem (w.toNat:Int) 3=((w.toNat%3:Nat):Int):=uN (b:=3);have hk2:nx .i64 (irem (w.toNat:Int) 3)=((w.toNat%3:Nat):Int):=by rw[hk];have:w.toNat%3<3:=uH _ (by decide);unfold nx;simp[IntKind.wrap,IntKind.signed,IntKind.bits];omega
 unfold oRL at cd;have hT1:(clo raw).path.length=((clo raw).marks (mR (oL ((clo raw).dom (w.toNat%3) (fdF form NV 0).1)))).1.length:=m1.symm;have hT2:(clo raw).lems.length=((clo raw).marks (mR (oL ((clo raw).dom (w.toNat%3) (fdF form NV 0).1)))).2.length:=m2.symm;rw[hT1,hT2] at cm;clear u1 u2 u3 u4 u5 d1 d2 dr hl hln m1 m2 b1 b2 cv hvars hgv hx hpl hll hT1 hT2 hk;generalize (clo raw).dom (w.toNat%3) (fdF form NV 0).1=O at *
 generalize (fdF form NV 0).1=f at *
 generalize clo raw=S at *
 generalize mR (cloL raw)=CL at *
 generalize w.toNat%3=k at *
 generalize zJ (oV O)=Y at *
 generalize mR (oL O)=ML at *
 generalize O.isSome=ob at *
 generalize (S.marks ML).1=A1 at *
 generalize (S.marks ML).2=A2 at *
 generalize uY A1=I1 at *
 generalize uY A2=I2 at *
 obtain⟨⟨⟨n,us,os⟩,⟨lo,hi',rows⟩,⟨ts,c⟩⟩,path,lems⟩:=S;obtain⟨FA,hFA⟩:∃ X,fA f=X:=⟨_,rfl⟩;simp only[fv,hFA] at cf cd;dsimp only [sv] at *
 cbv;refine cA ca ?_;cbv;refine pV rfl ?_;cbv;refine zQ (fun e1=>?_) (fun e1=>?_)
 ·cbv
  (refine rC ?_;cbv)
  exact yN rfl
 cbv;refine zG (fun e2=>?_) (fun e2=>?_)
 ·cbv
  (refine rC ?_;cbv)
  exact yN rfl
 have ccl':=ccl (by rw[zA] at e1;(try dsimp only [zF] at *);omega);have cf':=cf (by rw[zA] at e2;(try dsimp only [zF] at *);omega);clear ccl cf;cbv;refine cA ccl' ?_;cbv;refine vC 17 [(15,9)] (by cbv) (by cbv) (by cbv) ?_;cbv;refine⟨uA (by decide),?_⟩;refine dA cf' ?_;cbv;refine x9 (by exact⟨zC hk2,okA,okA,trivial⟩) cd rfl ?_;cbv;refine zP (fun e3=>?_) (fun e3=>?_)
 rotate_left
 ·cbv
  (refine rC ?_;cbv)
  exact yN rfl
 cbv;refine cA cu ?_;cbv;refine y0 (fun n=>n) (Wk.sel _ [12,13,54,55] [] rfl) rfl okA cm trivial rfl rfl rfl rfl rfl rfl rfl rfl ?_;cbv;have hf1:0+A1.length<=(enc bc A1).length:=by rw[zA];omega
 have hf2:0+A2.length<=(enc bc A2).length:=by rw[zA];omega
 have t1:((enc bc A1).drop 0).take A1.length=enc bc A1:=by rw[wC,<-zA bc A1,v9]
 have t2:((enc bc A2).drop 0).take A2.length=enc bc A2:=by rw[wC,<-zA bc A2,v9]
 refine kQ (.trans (.sel _ [12,13,14,15,59,60] [100,101] rfl) (.trans (.frz 100 rfl rfl (by cbv;repeat' first|exact trivial|exact z8 hf1|apply And.intro) (by cbv;repeat' first|exact trivial|apply And.intro)) (.frz 101 rfl rfl (by cbv;repeat' first|exact trivial|exact z8 hf2|apply And.intro) (by cbv;repeat' first|exact trivial|apply And.intro)))) rfl (by exact⟨zR t1,trivial⟩) ci1 rfl ?_;cbv;refine cA cs1 ?_;cbv;refine zG7 rfl ?_;cbv;refine yP rfl (by exact⟨zR t2,trivial⟩) ci2 rfl ?_;cbv;refine cA cs2 ?_;cbv
 (refine rC ?_;cbv)
 exact lR
end Go.Proofs.YtaeaffgjdcigoaaGreat
