/- A part of the proof: KcX. -/
import Derived.Test.YtaeaffgjdcigoaaGreatC39
import Derived.Test.YtaeaffgjdcigoaaGreatC49
import Derived.Test.YtaeaffgjdcigoaaGreatC37
set_option linter.all false
namespace Go.Proofs.YtaeaffgjdcigoaaGreat
open Go
set_option maxRecDepth 100000
set_option maxHeartbeats 8000000
theorem zN9 (s:Scp)(j:Int):s.opn j=decide (s.phs j=0):=by show (!(s.onU j) && !(s.offU j))=_;unfold Scp.phs;cases s.onU j <;> cases s.offU j <;> rfl
def zMG (raw:List UInt8):Scp:=opnG (xC raw) ((dvd raw).run (xC raw%3)).q.g.us.length 0 ((dvd raw).run (xC raw%3))
theorem zWB (raw:List UInt8):fH raw=if xC raw%2=0 then (zMG raw).run 1 else zMG raw:=rfl
theorem zR6 (raw:List UInt8):Rv (fdY raw 0).1 (zMG raw) 7 24:=by
 have hx:=rA raw;have hus:=hx.s.g.us;have h1:=(zI8 raw).run hx (xC raw%3);have hl:((dvd raw).run (xC raw%3)).q.g.us.length<=4:=by rw[h1.q];show ((fdY raw 0).1.g.us.map fA).length<=4;rw[xA];exact hus
 exact (Rv.opnG (n:=xC raw) (k:=((dvd raw).run (xC raw%3)).q.g.us.length) (j:=0) oM h1).mono (p':=7) (c':=24) oM oM
theorem zKP (raw:List UInt8):DomOk (fH raw) (fdY raw 0).1.goal/\∀ k,DomR (fH raw) (2^13) (2^16) ((fH raw).dom k (fdY raw 0).1.goal):=by have hx:=rA raw;have hus:=hx.s.g.us;have h:=zAB raw;obtain⟨d1,d2⟩:=zDG hx.s hx.o h.z hx.u hx.g (by decide) hx.o.goal (zZ _);obtain⟨l1,l2,l3,l4,l5,l6,l7⟩:=iK hx.s.g.n1 hx.s.g.n2 hus;exact⟨d1,fun k=>⟨(d2 k).v.mono l6,(d2 k).m,(d2 k).r,(d2 k).len⟩⟩
theorem sKcl (raw:List UInt8)(hr:raw.length<2^38):zE 11 [u8v raw] (.tup [sv (clo raw),mlv (mR (cloL raw))]):=by
 refine sF Tryz.f11 ?_;have hx:=rA raw;have c1:=sKdv raw hr;have c2:=fun k=>sKru hx (zI8 raw) (by decide) (by decide) k;have c2:=c2 (xC raw%3);have r1:=(zI8 raw).run hx (xC raw%3);have c3:=sKru hx (zR6 raw) (by decide) (by decide) 1;obtain⟨u1,u2,u3,u4⟩:=(zAB raw).usz hx (by decide) (by decide);obtain⟨d1,d2⟩:=zKP raw;have c4:=sKdo 2 (fH raw) (fdY raw 0).1.goal u1 u2 u3 d1;have hgl:(fH raw).q.goal=fA (fdY raw 0).1.goal:=by rw[(zAB raw).q];rfl
 have eO:(fH raw).dom 2 (fdY raw 0).1.goal=clsO raw:=by unfold clsO;rw[hgl,kY]
 have d3:=d2 2;rw[eO] at c4 d3;have c5:=sKra (fH raw).q.goal (oV (clsO raw)) (u4.q.goal.c.mono (by decide)) (d3.v.mono (by decide));have eC:clo raw=⟨⟨(fH raw).q.g,(fH raw).q.r,s6 (fH raw).q.goal (oV (clsO raw))⟩,(fH raw).path,(fH raw).lems⟩:=rfl;have eL:cloL raw=oL (clsO raw):=rfl;have he:=zWB raw;have hle:=zAC raw;have hst:=fun i w h=>n8 (raw:=raw) (i:=i) (w:=w) h;have hnb:=hle raw.length;rw[v9] at hnb;have hul:((dvd raw).run (xC raw%3)).q.g.us.length<=4:=by rw[r1.q];show ((fdY raw 0).1.g.us.map fA).length<=4;rw[xA];exact hx.s.g.us
 have hqv:=(r1.usz hx (by decide) (by decide)).1.v;have e0:zMG raw=opnG (xC raw) ((dvd raw).run (xC raw%3)).q.g.us.length 0 ((dvd raw).run (xC raw%3)):=rfl
 
 have hF:∀ (j:Nat) (P:List Dec),Rv (fdY raw 0).1 ⟨((dvd raw).run (xC raw%3)).q,P,((dvd raw).run (xC raw%3)).lems⟩ (3+j) 24->j<((dvd raw).run (xC raw%3)).q.g.us.length->∃ ph:Int,zE 44 [sv ⟨((dvd raw).run (xC raw%3)).q,P,((dvd raw).run (xC raw%3)).lems⟩,.int .i64 (fun _=>(j:Int))] (.int .i64 (fun _=>ph)) /\
   ((ph=0/\(xC raw+7*j)%4<2)->(∀ r,opnG (xC raw) (r+1) j ⟨((dvd raw).run (xC raw%3)).q,P,((dvd raw).run (xC raw%3)).lems⟩=opnG (xC raw) r (j+1) ⟨((dvd raw).run (xC raw%3)).q,P++[⟨1+((xC raw+7*j)%4:Nat),j,R0⟩],((dvd raw).run (xC raw%3)).lems⟩)/\Rv (fdY raw 0).1 ⟨((dvd raw).run (xC raw%3)).q,P++[⟨1+((xC raw+7*j)%4:Nat),j,R0⟩],((dvd raw).run (xC raw%3)).lems⟩ (3+(j+1)) 24) /\
   (¬(ph=0/\(xC raw+7*j)%4<2)->(∀ r,opnG (xC raw) (r+1) j ⟨((dvd raw).run (xC raw%3)).q,P,((dvd raw).run (xC raw%3)).lems⟩=opnG (xC raw) r (j+1) ⟨((dvd raw).run (xC raw%3)).q,P,((dvd raw).run (xC raw%3)).lems⟩)/\Rv (fdY raw 0).1 ⟨((dvd raw).run (xC raw%3)).q,P,((dvd raw).run (xC raw%3)).lems⟩ (3+(j+1)) 24):=fun j P h hj=>by
  obtain⟨v1,v2,v3,v4⟩:=h.usz hx oM (by decide);refine⟨_,sKph _ j v4 v1.v hj,fun g=>⟨fun r=>?_,h.dec rfl oM⟩,fun g=>⟨fun r=>?_,h.mono oM (zZ _)⟩⟩;{rw[show opnG (xC raw) (r+1) j ⟨((dvd raw).run (xC raw%3)).q,P,((dvd raw).run (xC raw%3)).lems⟩=opnG (xC raw) r (j+1) (if (⟨((dvd raw).run (xC raw%3)).q,P,((dvd raw).run (xC raw%3)).lems⟩:Scp).opn j=true/\(xC raw+7*j)%4<2 then ⟨((dvd raw).run (xC raw%3)).q,P++[⟨1+((xC raw+7*j)%4:Nat),j,R0⟩],((dvd raw).run (xC raw%3)).lems⟩ else ⟨((dvd raw).run (xC raw%3)).q,P,((dvd raw).run (xC raw%3)).lems⟩) from rfl,if_pos ⟨by rw[zN9,decide_eq_true g.1],g.2⟩]};{rw[show opnG (xC raw) (r+1) j ⟨((dvd raw).run (xC raw%3)).q,P,((dvd raw).run (xC raw%3)).lems⟩=opnG (xC raw) r (j+1) (if (⟨((dvd raw).run (xC raw%3)).q,P,((dvd raw).run (xC raw%3)).lems⟩:Scp).opn j=true/\(xC raw+7*j)%4<2 then ⟨((dvd raw).run (xC raw%3)).q,P++[⟨1+((xC raw+7*j)%4:Nat),j,R0⟩],((dvd raw).run (xC raw%3)).lems⟩ else ⟨((dvd raw).run (xC raw%3)).q,P,((dvd raw).run (xC raw%3)).lems⟩) from rfl,if_neg (fun g'=>g ⟨by have:=g'.1;rw[zN9] at this;exact of_decide_eq_true this,g'.2⟩)]}
 have h0:Rv (fdY raw 0).1 ⟨((dvd raw).run (xC raw%3)).q,((dvd raw).run (xC raw%3)).path,((dvd raw).run (xC raw%3)).lems⟩ (3+0) 24:=r1;have hqb:((dvd raw).run (xC raw%3)).q=(fdY raw 0).1.q:=r1.q;obtain⟨RV,hRV⟩:∃ RV:Nat->List Dec->Prop,∀ j P,RV j P=Rv (fdY raw 0).1 ⟨((dvd raw).run (xC raw%3)).q,P,((dvd raw).run (xC raw%3)).lems⟩ (3+j) 24:=⟨_,fun _ _=>rfl⟩;have hRl:∀ j P,RV j P->P.length<=3+j:=fun j P h=>by rw[hRV] at h;exact h.pl
 simp only[<-hRV] at hF h0;have c4':zE 12 [.int .i64 (fun _=>2),sv (fH raw),av (fH raw).q.goal] (oRL (clsO raw)):=by rw[hgl];exact c4
 clear hRV u1 u2 u3 u4 d1 d2 d3 eO hgl r1 hqb hx c4;generalize clsO raw=O at *
 generalize clo raw=CL at *
 generalize cloL raw=CLL at *
 generalize fH raw=S3 at *
 generalize zMG raw=S2 at *
 generalize (dvd raw).run (xC raw%3)=R1 at *
 generalize dvd raw=X0 at *
 obtain⟨S,hS⟩:∃ S:Nat->Nat,∀ i,S i=xC (raw.take i):=⟨_,fun _=>rfl⟩;have hfull:raw.take raw.length=raw:=v9;have hS0:S 0=0:=by rw[hS];rfl
 have hSl:S raw.length=xC raw:=by rw[hS,hfull]
 simp only[<-hS] at hle hst;clear hS hfull;generalize xC raw=M at *
 subst eC eL;obtain⟨⟨⟨n',us,os⟩,⟨lo,hi',rows⟩,⟨ts,c'⟩⟩,P0,L⟩:=R1;obtain⟨G,hG⟩:∃ G:Nat->Nat->List Dec->Scp,∀ k j P,G k j P=opnG M k j ⟨⟨⟨n',us,os⟩,⟨lo,hi',rows⟩,⟨ts,c'⟩⟩,P,L⟩:=⟨_,fun _ _ _=>rfl⟩;have hG0:∀ j P,G 0 j P=⟨⟨⟨n',us,os⟩,⟨lo,hi',rows⟩,⟨ts,c'⟩⟩,P,L⟩:=fun j P=>by rw[hG];rfl
 dsimp only at *
 simp only[<-hG] at hF e0;clear hG;unfold oRL at c4';generalize zJ (oV O)=Y at *
 generalize oV O=y at *
 generalize mR (oL O)=ML at *
 generalize O.isSome=ob at *
 dsimp only [sv] at *
 cbv;refine cA c1 ?_;cbv;refine z3 (σ:=Nat) (fun i=>⟨[(0,u8v raw),(2,.ptr 2 0),(4,.ptr 4 0),(5,.int .i64 (fun _=>(S i:Int))),(6,.int .i64 (fun _=>(i:Int)))],
   [(2,.box [.int .i64 (fun _=>0),.nil,.nil,.nil,.nil,.nil,.nil,.ff,.nil,.nil,.nil,.nil]),(4,.box (sc X0))]⟩)
  (fun i=>i<=raw.length) (fun i=>raw.length-i) 0 (xD _) (.le (by cbv;repeat' first|exact trivial|exact lR|exact zC (by rw[hS0];rfl)|exact zC om|apply And.intro) okZ rfl) ?_
 intro i hi;cbv;refine zG (fun h=>?_) (fun h=>?_)
 ·(have hlt:i<raw.length:=by rw[zA] at h;(try dsimp only [zF] at *);omega);obtain⟨w,hw⟩:=zT hlt
  have e:=hst i w hw;have e2:=hle i;have e3:=hle (i+1);have hw8:=w.toNat_lt;have e4:=zT5 w;clear hst hle c1 c2 he hF;cbv;refine yX hw eK eJ ?_;cbv;exact⟨zD (by rw[e4];(try dsimp only [zF] at *);omega) (by rw[e4];(try dsimp only [zF] at *);omega),zD om om,i+1,(show i+1<=_ by omega),(show raw.length-(i+1)<raw.length-i by omega),.le (by cbv;repeat' first|exact trivial|exact lR|exact zC (by rw[e4,e];(try dsimp only [zF] at *);omega)|exact zC om|apply And.intro) okZ rfl⟩
 have hi':i=raw.length:=by rw[zA] at h;(try dsimp only [zF] at *);omega
 subst hi';have hm3:irem ((M:Nat):Int) 3=((M%3:Nat):Int):=uN (b:=3);have hm2:irem ((M:Nat):Int) 2=((M%2:Nat):Int):=uN (b:=2);have hk4:∀ j:Nat,irem ((M:Int)+7*(j:Int)) 4=(((M+7*j)%4:Nat):Int):=fun j=>uN (a:=M+7*j) (b:=4);clear hst hle h;rw[hSl];cbv;refine⟨uA om,?_⟩;cbv;refine yP rfl (by exact⟨zC hm3,okA,lR,trivial⟩) c2 rfl ?_;cbv;refine z3 (σ:=Nat×List Dec) (fun t=>⟨[(2,.ptr 2 0),(4,.ptr 4 0),(5,.int .i64 (fun _=>(M:Int))),(7,.int .i64 (fun _=>(t.1:Int)))],[(2,.box [.int .i64 (fun _=>0),.nil,.nil,.nil,.nil,.nil,.nil,.ff,.nil,.nil,.nil,.nil]),(4,.box [.int .i64 (fun _=>n'),alv us,alv os,rlv lo,rlv hi',alv rows,tsv ts,.bool (fun _=>c'.neg),nat c'.num,nat c'.den,dlv t.2,llv L])]⟩)
  (fun t=>t.1<=us.length/\G (us.length-t.1) t.1 t.2=S2/\RV t.1 t.2) (fun t=>us.length-t.1) (0,P0) ⟨xD _,e0.symm,h0⟩ (wkZ) ?_
 intro t ht;obtain⟨j,P⟩:=t;obtain⟨h1,h2,h3⟩:=ht;dsimp only at h1 h2 h3;clear e0 h0 c1 c2;cbv;refine zG (fun h=>?_) (fun h=>?_)
 ·(have hlt:j<us.length:=by rw[zA] at h;(try dsimp only [zF] at *);omega);obtain⟨ph,cph,f1,f2⟩:=hF j P h3 hlt
  have hk:=hk4 j;have hPl:=hRl j P h3;rw[show us.length-j=us.length-(j+1)+1 by omega] at h2;generalize (M+7*j)%4=kk at *
  clear hF hk4 he hm3 hm2 hRl h3 c3 c4' c5;cbv;refine⟨zD om om,zD om om,uA om,?_⟩;cbv;refine cA cph ?_;cbv;refine zQ (fun ez=>?_) (fun ez=>?_)
  ·cbv;refine zG (fun ek=>?_) (fun ek=>?_)
   ·(have ek':kk<2:=by (try dsimp only [zF] at *);omega);obtain⟨g1,g2⟩:=f1 ⟨ez,ek'⟩
    (have h4:=(g1 _).symm.trans h2;have hT:((enc dc P++zS [dc ⟨1+(kk:Int),j,R0⟩]).drop 0).take (P.length+1)=enc dc (P++[⟨1+(kk:Int),j,R0⟩]):=by rw[show enc dc (P++[⟨1+(kk:Int),j,R0⟩])=enc dc P++zS [dc ⟨1+(kk:Int),j,R0⟩] by simp[enc,zS],wC,yS (by simp[zA,zS])]);clear f1 f2 g1 h2
    cbv;refine mU zBP rfl rfl rfl rfl rfl rfl (w6 jH _) (yD (by simp only[zA];omega) (by simp only[zA];omega)) rfl ?_;cbv;refine⟨zD om om,?_⟩;refine mT zBP rfl rfl rfl (by simp[zA]) rfl ⟨by simp[zS,wB]⟩ (yD (by simp[zS,zA] <;> omega) (by simp[zS,zA] at *;(try dsimp only [zF] at *);omega)) rfl ?_;cbv;refine⟨zD om om,(j+1,P++[⟨1+(kk:Int),j,R0⟩]),⟨(show j+1<=us.length by omega),h4,g2⟩,(show us.length-(j+1)<us.length-j by omega),.trans (.le (ps':=⟨[(2,.ptr 2 0),(4,.ptr 4 0),(5,.int .i64 (fun _=>(M:Int))),(7,.int .i64 (fun _=>((j+1:Nat):Int)))],[(2,.box [.int .i64 (fun _=>0),.nil,.nil,.nil,.nil,.nil,.nil,.ff,.nil,.nil,.nil,.nil]),(4,.box [.int .i64 (fun _=>n'),alv us,alv os,rlv lo,rlv hi',alv rows,tsv ts,.bool (fun _=>c'.neg),nat c'.num,nat c'.den,.osl 59 5 (fun _=>0) (fun _=>P.length+1),llv L]),(59,.arr 5 (fun _=>enc dc P++zS [dc ⟨1+(kk:Int),j,R0⟩]))]⟩) okZ ?_ rfl) (.trans (.frz 59 rfl rfl (by cbv;repeat' first|exact trivial|exact z8 (by simp[zA,zS])|apply And.intro) (by cbv;repeat' first|exact trivial|exact z8 (by simp[zA,zS])|apply And.intro)) (.le okZ ?_ rfl))⟩;{cbv;refine⟨okA,⟨lR,lR,lR,lR,lR,lR,lR,lR,lR,lR,yC rfl (by simp[zA,zS]),lR,trivial⟩,zI ?_,trivial⟩;rw[hk];rfl};{cbv;exact⟨okA,⟨lR,lR,lR,lR,lR,lR,lR,lR,lR,lR,zR hT,lR,trivial⟩,trivial⟩}
   {have g:=f2 (fun h=>ek om);have h4:=(g.1 _).symm.trans h2;have g2:=g.2;clear f1 f2 g h2;cbv;exact⟨zD om om,(j+1,P),⟨(show j+1<=us.length by omega),h4,g2⟩,(show us.length-(j+1)<us.length-j by omega),wkZ⟩}
  {have g:=f2 (fun h=>ez h.1);have h4:=(g.1 _).symm.trans h2;have g2:=g.2;clear f1 f2 g h2;cbv;exact⟨zD om om,(j+1,P),⟨(show j+1<=us.length by omega),h4,g2⟩,(show us.length-(j+1)<us.length-j by omega),wkZ⟩}
 ·(have hj:j=us.length:=by rw[zA] at h;(try dsimp only [zF] at *);omega);rw[hj,lX,hG0] at h2
  subst h2;clear hF hG0 hRl hk4 h3;dsimp only at c3;cbv;refine⟨uA om,?_⟩;cbv;refine fX (σ:=Unit) (fun _=>⟨[(2,.ptr 2 0),(4,.ptr 4 0)],[(2,.box [.int .i64 (fun _=>0),.nil,.nil,.nil,.nil,.nil,.nil,.ff,.nil,.nil,.nil,.nil]),(4,.box (sc S3))]⟩) (fun _=>True) (fun e=>?_) (fun e=>?_) (fun _ _=>?_);{rw[if_pos om] at he;rw[<-he] at c3;cbv;refine cA c3 ?_;cbv;exact⟨(),trivial,wkZ⟩};{rw[if_neg om] at he;cbv;rw[he];exact⟨(),trivial,wkZ⟩}
  ·clear he c3 hm2 hm3;cbv;refine cA c4' ?_;cbv;refine cA c5 ?_;cbv
   (refine rC ?_;cbv)
   exact okA
end Go.Proofs.YtaeaffgjdcigoaaGreat
