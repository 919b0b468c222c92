/- A part of the proof: KcX. -/
import Derived.Test.YtaeaffgjdcigoaaGreatG36
import Derived.Test.YtaeaffgjdcigoaaGreatG34
import Derived.Test.YtaeaffgjdcigoaaGreatG37
set_option linter.all false
namespace Go.Proofs.YtaeaffgjdcigoaaGreat
open Go
set_option maxRecDepth 100000
set_option maxHeartbeats 8000000
def Ff (s:Scp)(j:Int):s.opn j=decide (s.phs j=0):=by show (!(s.onU j) && !(s.offU j))=_;grind [Scp.phs]
def JT (raw:List UInt8):Scp:=opnG (y5 raw) ((dvd raw).run (y5 raw%3)).q.g.us.length 0 ((dvd raw).run (y5 raw%3))
def Pv (raw:List UInt8):jF raw=if y5 raw%2=0 then (JT raw).run 1 else JT raw:=rfl
def AP (raw:List UInt8):Rv (fdY raw 0).1 (JT raw) 7 24:=by
 have hx:=tQ raw;have hus:=hx.s.g.us;have h1:=(Q4 raw).run hx (y5 raw%3);have hl:((dvd raw).run (y5 raw%3)).q.g.us.length<=4:=by rw[h1.q];show ((fdY raw 0).1.g.us.map fA).length<=4;grind
 exact (Rv.opnG (n:=y5 raw) (k:=((dvd raw).run (y5 raw%3)).q.g.us.length) (j:=0) oM h1).mono (p':=7) (c':=24) oM oM
def JS (raw:List UInt8):DomOk (jF raw) (fdY raw 0).1.goal/\∀ k,DomR (jF raw) (2^13) (2^16) ((jF raw).dom k (fdY raw 0).1.goal):=by have hx:=tQ raw;have hus:=hx.s.g.us;have h:=lW raw;obtain⟨d1,d2⟩:=Q5 hx.s hx.o h.z hx.u hx.g (by decide) hx.o.goal (yD _);obtain⟨l1,l2,l3,l4,l5,l6,l7⟩:=eE hx.s.g.n1 hx.s.g.n2 hus;exact⟨d1,λk=>⟨(d2 k).v.mono l6,(d2 k).m,(d2 k).r,(d2 k).len⟩⟩
def Lc (raw:List UInt8)(hr:raw.length<2^38):zD 11 [u8v raw] (.tup [sv (clo raw),mlv (mR (Zy raw))]):=by
 refine sF Tryz.f11 ?_;have hx:=tQ raw;have c1:=EX raw hr;have c2:=λk=>Mj hx (Q4 raw) (by decide) (by decide) k;have c2:=c2 (y5 raw%3);have r1:=(Q4 raw).run hx (y5 raw%3);have c3:=Mj hx (AP raw) (by decide) (by decide) 1;obtain⟨u1,u2,u3,u4⟩:=(lW raw).usz hx (by decide) (by decide);obtain⟨d1,d2⟩:=JS raw;have c4:=La 2 (jF raw) (fdY raw 0).1.goal u1 u2 u3 d1;have hgl:(jF raw).q.goal=fA (fdY raw 0).1.goal:=by rw[(lW raw).q];rfl
 have eO:(jF raw).dom 2 (fdY raw 0).1.goal=tV raw:=by unfold tV;rw[hgl,qP]
 have d3:=d2 2;rw[eO] at c4 d3;have c5:=EF (jF raw).q.goal (oVq (tV raw)) (u4.q.goal.c.mono (by decide)) (d3.v.mono (by decide));have eC:clo raw=⟨⟨(jF raw).q.g,(jF raw).q.r,dS (jF raw).q.goal (oVq (tV raw))⟩,(jF raw).path,(jF raw).lems⟩:=rfl;have eL:Zy raw=oL (tV raw):=rfl;have he:=Pv raw;have hle:=ZA raw;have hst:=λi w h=>lX (raw:=raw) (i:=i) (w:=w) h;have hnb:=hle raw.length;rw[wW] at hnb;have hul:((dvd raw).run (y5 raw%3)).q.g.us.length<=4:=by rw[r1.q];show ((fdY raw 0).1.g.us.map fA).length<=4;rw[y8];exact hx.s.g.us
 have hqv:=(r1.usz hx (by decide) (by decide)).1.v;have e0:JT raw=opnG (y5 raw) ((dvd raw).run (y5 raw%3)).q.g.us.length 0 ((dvd raw).run (y5 raw%3)):=rfl
 
 have hF:∀ (j:Nat) (P:List Dec),Rv (fdY raw 0).1 ⟨((dvd raw).run (y5 raw%3)).q,P,((dvd raw).run (y5 raw%3)).lems⟩ (3+j) 24->j<((dvd raw).run (y5 raw%3)).q.g.us.length->∃ ph:Int,zD 44 [sv ⟨((dvd raw).run (y5 raw%3)).q,P,((dvd raw).run (y5 raw%3)).lems⟩,iV j] (iV ph) /\
   ((ph=0/\(y5 raw+7*j)%4<2)->(∀ r,opnG (y5 raw) (r+1) j ⟨((dvd raw).run (y5 raw%3)).q,P,((dvd raw).run (y5 raw%3)).lems⟩=opnG (y5 raw) r (j+1) ⟨((dvd raw).run (y5 raw%3)).q,P++[⟨1+((y5 raw+7*j)%4:Nat),j,R0⟩],((dvd raw).run (y5 raw%3)).lems⟩)/\Rv (fdY raw 0).1 ⟨((dvd raw).run (y5 raw%3)).q,P++[⟨1+((y5 raw+7*j)%4:Nat),j,R0⟩],((dvd raw).run (y5 raw%3)).lems⟩ (3+(j+1)) 24) /\
   (¬(ph=0/\(y5 raw+7*j)%4<2)->(∀ r,opnG (y5 raw) (r+1) j ⟨((dvd raw).run (y5 raw%3)).q,P,((dvd raw).run (y5 raw%3)).lems⟩=opnG (y5 raw) r (j+1) ⟨((dvd raw).run (y5 raw%3)).q,P,((dvd raw).run (y5 raw%3)).lems⟩)/\Rv (fdY raw 0).1 ⟨((dvd raw).run (y5 raw%3)).q,P,((dvd raw).run (y5 raw%3)).lems⟩ (3+(j+1)) 24):=λj P h hj=>by
  obtain⟨v1,v2,v3,v4⟩:=h.usz hx oM (by decide);refine⟨_,EG _ j v4 v1.v hj,λg=>⟨λr=>?_,h.dec rfl oM⟩,λg=>⟨λr=>?_,h.mono oM (yD _)⟩⟩;{rw[show opnG (y5 raw) (r+1) j ⟨((dvd raw).run (y5 raw%3)).q,P,((dvd raw).run (y5 raw%3)).lems⟩=opnG (y5 raw) r (j+1) (if (⟨((dvd raw).run (y5 raw%3)).q,P,((dvd raw).run (y5 raw%3)).lems⟩:Scp).opn j=true/\(y5 raw+7*j)%4<2 then ⟨((dvd raw).run (y5 raw%3)).q,P++[⟨1+((y5 raw+7*j)%4:Nat),j,R0⟩],((dvd raw).run (y5 raw%3)).lems⟩ else ⟨((dvd raw).run (y5 raw%3)).q,P,((dvd raw).run (y5 raw%3)).lems⟩) from rfl,if_pos ⟨by rw[Ff,decide_eq_true g.1],g.2⟩]};{rw[show opnG (y5 raw) (r+1) j ⟨((dvd raw).run (y5 raw%3)).q,P,((dvd raw).run (y5 raw%3)).lems⟩=opnG (y5 raw) r (j+1) (if (⟨((dvd raw).run (y5 raw%3)).q,P,((dvd raw).run (y5 raw%3)).lems⟩:Scp).opn j=true/\(y5 raw+7*j)%4<2 then ⟨((dvd raw).run (y5 raw%3)).q,P++[⟨1+((y5 raw+7*j)%4:Nat),j,R0⟩],((dvd raw).run (y5 raw%3)).lems⟩ else ⟨((dvd raw).run (y5 raw%3)).q,P,((dvd raw).run (y5 raw%3)).lems⟩) from rfl,if_neg (λg'=>g ⟨by have:=g'.1;rw[Ff] at this;exact of_decide_eq_true this,g'.2⟩)]}
 have h0:Rv (fdY raw 0).1 ⟨((dvd raw).run (y5 raw%3)).q,((dvd raw).run (y5 raw%3)).path,((dvd raw).run (y5 raw%3)).lems⟩ (3+0) 24:=r1;have hqb:((dvd raw).run (y5 raw%3)).q=(fdY raw 0).1.q:=r1.q;obtain⟨RV,hRV⟩:∃ RV:Nat->List Dec->Prop,∀ j P,RV j P=Rv (fdY raw 0).1 ⟨((dvd raw).run (y5 raw%3)).q,P,((dvd raw).run (y5 raw%3)).lems⟩ (3+j) 24:=⟨_,λ_ _=>rfl⟩;have hRl:∀ j P,RV j P->P.length<=3+j:=λj P h=>by rw[hRV] at h;exact h.pl
 simp only[<-hRV] at hF h0;have c4':zD 12 [iV 2,sv (jF raw),av (jF raw).q.goal] (oRL (tV raw)):=by rw[hgl];exact c4
 clear hRV u1 u2 u3 u4 d1 d2 d3 eO hgl r1 hqb hx c4;generalize tV raw=O at *;generalize clo raw=CL at *;generalize Zy raw=CLL at *;generalize jF raw=S3 at *;generalize JT raw=S2 at *;generalize (dvd raw).run (y5 raw%3)=R1 at *;generalize dvd raw=X0 at *;obtain⟨S,hS⟩:∃ S:Nat->Nat,∀ i,S i=y5 (raw.take i):=⟨_,λ_=>rfl⟩;have hfull:raw.take raw.length=raw:=wW;have hS0:S 0=0:=by grind
 have hSl:S raw.length=y5 raw:=by grind
 simp only[<-hS] at hle hst;clear hS hfull;generalize y5 raw=M at *;subst eC eL;obtain⟨⟨⟨n',us,os⟩,⟨lo,hi',rows⟩,⟨ts,c'⟩⟩,P0,L⟩:=R1;obtain⟨G,hG⟩:∃ G:Nat->Nat->List Dec->Scp,∀ k j P,G k j P=opnG M k j ⟨⟨⟨n',us,os⟩,⟨lo,hi',rows⟩,⟨ts,c'⟩⟩,P,L⟩:=⟨_,λ_ _ _=>rfl⟩;have hG0:∀ j P,G 0 j P=⟨⟨⟨n',us,os⟩,⟨lo,hi',rows⟩,⟨ts,c'⟩⟩,P,L⟩:=λj P=>by rw[hG];rfl
 dsimp only at *;simp only[<-hG] at hF e0;clear hG;unfold oRL at c4';generalize zG (oVq O)=Y at *;generalize oVq O=y at *;generalize mR (oL O)=ML at *;generalize O.isSome=ob at *;dsimp only [sv] at *;cbv;refine cA c1 ?_;cbv;refine zW (σ:=Nat) (λi=>⟨[(0,u8v raw),(2,.ptr 2 0),(4,.ptr 4 0),(5,iV ((S i:Int))),(6,iV i)],
   [(2,.box [iV 0,.nil,.nil,.nil,.nil,.nil,.nil,.ff,.nil,.nil,.nil,.nil]),(4,.box (sc X0))]⟩)
  (λi=>i<=raw.length) (λi=>raw.length-i) 0 (yU _) (.le (by cbv;repeat' first|exact trivial|exact lR|exact zB (by rw[hS0];rfl)|exact zB om|apply And.intro) okZ rfl) ?_
 intro i hi;cbv;refine zE (λh=>?_) (λh=>?_)
 ·(have hlt:i<raw.length:=by rw[zA] at h;exact om);obtain⟨w,hw⟩:=zO hlt
  have e:=hst i w hw;have e2:=hle i;have e3:=hle (i+1);have hw8:=w.toNat_lt;have e4:=BE w;clear hst hle c1 c2 he hF;cbv;refine yB hw mU n6 ?_;cbv;exact⟨zC (by rw[e4];exact om) (by rw[e4];exact om),zC om om,i+1,(show i+1<=_ by omega),(show raw.length-(i+1)<raw.length-i by omega),.le (by cbv;repeat' first|exact trivial|exact lR|exact zB (by rw[e4,e];exact om)|exact zB om|apply And.intro) okZ rfl⟩
 have hi':i=raw.length:=by rw[zA] at h;exact om
 subst hi';have hm3:irem ((M:Nat):Int) 3=((M%3:Nat):Int):=uJ (b:=3);have hm2:irem ((M:Nat):Int) 2=((M%2:Nat):Int):=uJ (b:=2);have hk4:∀ j:Nat,irem ((M:Int)+7*(j:Int)) 4=(((M+7*j)%4:Nat):Int):=λj=>uJ (a:=M+7*j) (b:=4);clear hst hle h;rw[hSl];cbv;refine⟨vX om,?_⟩;cbv;refine yP rfl (by exact⟨zB hm3,okA,lR,trivial⟩) c2 rfl ?_;cbv;refine zW (σ:=Nat×List Dec) (λt=>⟨[(2,.ptr 2 0),(4,.ptr 4 0),(5,iV M),(7,iV t.1)],[(2,.box [iV 0,.nil,.nil,.nil,.nil,.nil,.nil,.ff,.nil,.nil,.nil,.nil]),(4,.box [iV n',alv us,alv os,rlv lo,rlv hi',alv rows,tsv ts,bV c'.neg,nat c'.num,nat c'.den,dlv t.2,llv L])]⟩)
  (λt=>t.1<=us.length/\G (us.length-t.1) t.1 t.2=S2/\RV t.1 t.2) (λt=>us.length-t.1) (0,P0) ⟨yU _,e0.symm,h0⟩ (wkZ) ?_
 intro t ht;obtain⟨j,P⟩:=t;obtain⟨h1,h2,h3⟩:=ht;dsimp only at h1 h2 h3;clear e0 h0 c1 c2;cbv;refine zE (λh=>?_) (λh=>?_)
 ·(have hlt:j<us.length:=by rw[zA] at h;exact om);obtain⟨ph,cph,f1,f2⟩:=hF j P h3 hlt
  have hk:=hk4 j;have hPl:=hRl j P h3;rw[show us.length-j=us.length-(j+1)+1 by omega] at h2;generalize (M+7*j)%4=kk at *;clear hF hk4 he hm3 hm2 hRl h3 c3 c4' c5;cbv;refine⟨zC om om,zC om om,vX om,?_⟩;cbv;refine cA cph ?_;cbv;refine zQ (λez=>?_) (λez=>?_)
  ·cbv;refine zE (λek=>?_) (λek=>?_)
   ·(have ek':kk<2:=by exact om);obtain⟨g1,g2⟩:=f1 ⟨ez,ek'⟩
    (have h4:=(g1 _).symm.trans h2;have hT:((enc dc P++zL [dc ⟨1+(kk:Int),j,R0⟩]).drop 0).take (P.length+1)=enc dc (P++[⟨1+(kk:Int),j,R0⟩]):=by rw[show enc dc (P++[⟨1+(kk:Int),j,R0⟩])=enc dc P++zL [dc ⟨1+(kk:Int),j,R0⟩] by simp[enc,zL],xM,yW (by simp[zA,zL])]);clear f1 f2 g1 h2
    cbv;refine s4 rU rfl rfl rfl rfl rfl rfl (wJ qN _) (z5 oM (by grind [zA])) rfl ?_;cbv;refine⟨zC om om,?_⟩;refine wU rU rfl rfl rfl oM rfl ⟨by simp[zL,xE]⟩ (z5 oM (by simp[zL,zA] at *;exact om)) rfl ?_;cbv;refine⟨zC om om,(j+1,P++[⟨1+(kk:Int),j,R0⟩]),⟨(show j+1<=us.length by omega),h4,g2⟩,(show us.length-(j+1)<us.length-j by omega),.trans (.le (ps':=⟨[(2,.ptr 2 0),(4,.ptr 4 0),(5,iV M),(7,iV (((j+1:Nat):Int)))],[(2,.box [iV 0,.nil,.nil,.nil,.nil,.nil,.nil,.ff,.nil,.nil,.nil,.nil]),(4,.box [iV n',alv us,alv os,rlv lo,rlv hi',alv rows,tsv ts,bV c'.neg,nat c'.num,nat c'.den,oV 59 5 (P.length+1),llv L]),(59,aV 5 (enc dc P++zL [dc ⟨1+(kk:Int),j,R0⟩]))]⟩) okZ ?_ rfl) (.trans (.frz 59 rfl rfl (by cbv;repeat' first|exact trivial|exact z8 (by simp[zA,zL])|apply And.intro) (by cbv;repeat' first|exact trivial|exact z8 (by simp[zA,zL])|apply And.intro)) (.le okZ ?_ rfl))⟩;{cbv;refine⟨okA,⟨lR,lR,lR,lR,lR,lR,lR,lR,lR,lR,zZ rfl (by simp[zA,zL]),lR,trivial⟩,zH ?_,trivial⟩;rw[hk];rfl};{cbv;exact⟨okA,⟨lR,lR,lR,lR,lR,lR,lR,lR,lR,lR,zS hT,lR,trivial⟩,trivial⟩}
   {have g:=f2 (λh=>ek (by exact om));have h4:=(g.1 _).symm.trans h2;have g2:=g.2;clear f1 f2 g h2;cbv;exact⟨zC om om,(j+1,P),⟨(show j+1<=us.length by omega),h4,g2⟩,(show us.length-(j+1)<us.length-j by omega),wkZ⟩}
  {have g:=f2 (λh=>ez h.1);have h4:=(g.1 _).symm.trans h2;have g2:=g.2;clear f1 f2 g h2;cbv;exact⟨zC om om,(j+1,P),⟨(show j+1<=us.length by omega),h4,g2⟩,(show us.length-(j+1)<us.length-j by omega),wkZ⟩}
 ·(have hj:j=us.length:=by rw[zA] at h;exact om);rw[hj,Vr,hG0] at h2
  subst h2;clear hF hG0 hRl hk4 h3;dsimp only at c3;cbv;refine⟨vX om,?_⟩;cbv;refine gD (σ:=Unit) (λ_=>⟨[(2,.ptr 2 0),(4,.ptr 4 0)],[(2,.box [iV 0,.nil,.nil,.nil,.nil,.nil,.nil,.ff,.nil,.nil,.nil,.nil]),(4,.box (sc S3))]⟩) (λ_=>True) (λe=>?_) (λe=>?_) (λ_ _=>?_);{rw[if_pos (by exact om)] at he;rw[<-he] at c3;cbv;refine cA c3 ?_;cbv;exact⟨(),trivial,wkZ⟩};{rw[if_neg (by exact om)] at he;cbv;rw[he];exact⟨(),trivial,wkZ⟩};{clear he c3 hm2 hm3;cbv;refine cA c4' ?_;cbv;refine cA c5 ?_;cbv;exact rA}
def Q9 (raw:List UInt8):Cv (fdY raw 0).1 (clo raw) 7 32/\DomR (jF raw) (2^13) (2^16) (tV raw):=by
 have hx:=tQ raw;have hgl:(jF raw).q.goal=fA (fdY raw 0).1.goal:=by rw[(lW raw).q];rfl
 have d3:=(JS raw).2 2;have eO:(jF raw).dom 2 (fdY raw 0).1.goal=tV raw:=by unfold tV;rw[hgl,qP]
 rw[eO] at d3;exact⟨Ny raw d3.v,d3⟩
end Go.Proofs.YtaeaffgjdcigoaaGreat
