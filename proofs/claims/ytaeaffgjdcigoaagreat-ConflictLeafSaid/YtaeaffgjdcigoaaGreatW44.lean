/- A part of the proof: KcX. -/
import Derived.Test.YtaeaffgjdcigoaaGreatW37
import Derived.Test.YtaeaffgjdcigoaaGreatW35
import Derived.Test.YtaeaffgjdcigoaaGreatW38
set_option linter.all false
namespace Go.Proofs.YtaeaffgjdcigoaaGreat
open Go
set_option maxRecDepth 100000
set_option maxHeartbeats 8000000
def GB (s:Scp)(j:Int):s.opn j=decide (s.phs j=0):=by show (!(s.onU j) && !(s.offU j))=_;grind [Scp.phs]
def Jl (raw:List UInt8):Scp:=opnG (y9 raw) ((dvd raw).run (y9 raw%3)).q.g.us.length 0 ((dvd raw).run (y9 raw%3))
def Ry (raw:List UInt8):jJ raw=if y9 raw%2=0 then (Jl raw).run 1 else Jl raw:=rfl
def B8 (raw:List UInt8):Rv (fdY raw 0).1 (Jl raw) 7 24:=by
 have hx:=pH raw;have hus:=hx.s.g.us;have h1:=(QD raw).run hx (y9 raw%3);have hl:((dvd raw).run (y9 raw%3)).q.g.us.length<=4:=by rw[h1.q];show ((fdY raw 0).1.g.us.map fA).length<=4;grind
 exact (Rv.opnG (n:=y9 raw) (k:=((dvd raw).run (y9 raw%3)).q.g.us.length) (j:=0) oM h1).mono (p':=7) (c':=24) oM oM
def Jk (raw:List UInt8):DomOk (jJ raw) (fdY raw 0).1.goal/\∀ k,DomR (jJ raw) (2^13) (2^16) ((jJ raw).dom k (fdY raw 0).1.goal):=by have hx:=pH raw;have hus:=hx.s.g.us;have h:=lM raw;obtain⟨d1,d2⟩:=QE hx.s hx.o h.z hx.u hx.g (by decide) hx.o.goal (yD _);obtain⟨l1,l2,l3,l4,l5,l6,l7⟩:=iZ hx.s.g.n1 hx.s.g.n2 hus;exact⟨d1,λk=>⟨(d2 k).v.mono l6,(d2 k).m,(d2 k).r,(d2 k).len⟩⟩
def Nm (raw:List UInt8)(hr:raw.length<2^38):zC 11 [u8v raw] (.tup [sv (clo raw),mlv (mR (aA raw))]):=by
 refine sF Tryz.f11 ?_;have hx:=pH raw;have c1:=L4 raw hr;have c2:=λk=>Sr hx (QD raw).toRw (by decide) (by decide) k;have c2:=c2 (y9 raw%3);have r1:=(QD raw).run hx (y9 raw%3);have c3:=Sr hx (B8 raw).toRw (by decide) (by decide) 1;obtain⟨u1,u2,u3,u4⟩:=(lM raw).usz hx (by decide) (by decide);obtain⟨d1,d2⟩:=Jk raw;have c4:=Nj 2 (jJ raw) (fdY raw 0).1.goal u1 u2 u3 d1;have hgl:(jJ raw).q.goal=fA (fdY raw 0).1.goal:=by rw[(lM raw).q];rfl
 have eO:(jJ raw).dom 2 (fdY raw 0).1.goal=mE raw:=by unfold mE;rw[hgl,qG]
 have d3:=d2 2;rw[eO] at c4 d3;have c5:=LM (jJ raw).q.goal (oV (mE raw)) (u4.q.goal.c.mono (by decide)) (d3.v.mono (by decide));have eC:clo raw=⟨⟨(jJ raw).q.g,(jJ raw).q.r,dT (jJ raw).q.goal (oV (mE raw))⟩,(jJ raw).path,(jJ raw).lems⟩:=rfl;have eL:aA raw=oL (mE raw):=rfl;have he:=Ry raw;have hle:=Zs raw;have hst:=λi w h=>lN (raw:=raw) (i:=i) (w:=w) h;have hnb:=hle raw.length;rw[v9] at hnb;have hul:((dvd raw).run (y9 raw%3)).q.g.us.length<=4:=by rw[r1.q];show ((fdY raw 0).1.g.us.map fA).length<=4;rw[y4];exact hx.s.g.us
 have hqv:=(r1.usz hx (by decide) (by decide)).1.v;have e0:Jl raw=opnG (y9 raw) ((dvd raw).run (y9 raw%3)).q.g.us.length 0 ((dvd raw).run (y9 raw%3)):=rfl
 
 have hF:∀ (j:Nat) (P:List Dec),Rv (fdY raw 0).1 ⟨((dvd raw).run (y9 raw%3)).q,P,((dvd raw).run (y9 raw%3)).lems⟩ (3+j) 24->j<((dvd raw).run (y9 raw%3)).q.g.us.length->∃ ph:Int,zC 44 [sv ⟨((dvd raw).run (y9 raw%3)).q,P,((dvd raw).run (y9 raw%3)).lems⟩,iV j] (iV ph) /\
   ((ph=0/\(y9 raw+7*j)%4<2)->(∀ r,opnG (y9 raw) (r+1) j ⟨((dvd raw).run (y9 raw%3)).q,P,((dvd raw).run (y9 raw%3)).lems⟩=opnG (y9 raw) r (j+1) ⟨((dvd raw).run (y9 raw%3)).q,P++[⟨1+((y9 raw+7*j)%4:Nat),j,R0⟩],((dvd raw).run (y9 raw%3)).lems⟩)/\Rv (fdY raw 0).1 ⟨((dvd raw).run (y9 raw%3)).q,P++[⟨1+((y9 raw+7*j)%4:Nat),j,R0⟩],((dvd raw).run (y9 raw%3)).lems⟩ (3+(j+1)) 24) /\
   (¬(ph=0/\(y9 raw+7*j)%4<2)->(∀ r,opnG (y9 raw) (r+1) j ⟨((dvd raw).run (y9 raw%3)).q,P,((dvd raw).run (y9 raw%3)).lems⟩=opnG (y9 raw) r (j+1) ⟨((dvd raw).run (y9 raw%3)).q,P,((dvd raw).run (y9 raw%3)).lems⟩)/\Rv (fdY raw 0).1 ⟨((dvd raw).run (y9 raw%3)).q,P,((dvd raw).run (y9 raw%3)).lems⟩ (3+(j+1)) 24):=λj P h hj=>by
  obtain⟨v1,v2,v3,v4⟩:=h.usz hx oM (by decide);refine⟨_,LN _ j v4 v1.v hj,λg=>⟨λr=>?_,h.dec rfl oM⟩,λg=>⟨λr=>?_,h.mono oM (yD _)⟩⟩;{rw[show opnG (y9 raw) (r+1) j ⟨((dvd raw).run (y9 raw%3)).q,P,((dvd raw).run (y9 raw%3)).lems⟩=opnG (y9 raw) r (j+1) (if (⟨((dvd raw).run (y9 raw%3)).q,P,((dvd raw).run (y9 raw%3)).lems⟩:Scp).opn j=true/\(y9 raw+7*j)%4<2 then ⟨((dvd raw).run (y9 raw%3)).q,P++[⟨1+((y9 raw+7*j)%4:Nat),j,R0⟩],((dvd raw).run (y9 raw%3)).lems⟩ else ⟨((dvd raw).run (y9 raw%3)).q,P,((dvd raw).run (y9 raw%3)).lems⟩) from rfl,if_pos ⟨by rw[GB,decide_eq_true g.1],g.2⟩]};{rw[show opnG (y9 raw) (r+1) j ⟨((dvd raw).run (y9 raw%3)).q,P,((dvd raw).run (y9 raw%3)).lems⟩=opnG (y9 raw) r (j+1) (if (⟨((dvd raw).run (y9 raw%3)).q,P,((dvd raw).run (y9 raw%3)).lems⟩:Scp).opn j=true/\(y9 raw+7*j)%4<2 then ⟨((dvd raw).run (y9 raw%3)).q,P++[⟨1+((y9 raw+7*j)%4:Nat),j,R0⟩],((dvd raw).run (y9 raw%3)).lems⟩ else ⟨((dvd raw).run (y9 raw%3)).q,P,((dvd raw).run (y9 raw%3)).lems⟩) from rfl,if_neg (λg'=>g ⟨by have:=g'.1;rw[GB] at this;exact of_decide_eq_true this,g'.2⟩)]}
 have h0:Rv (fdY raw 0).1 ⟨((dvd raw).run (y9 raw%3)).q,((dvd raw).run (y9 raw%3)).path,((dvd raw).run (y9 raw%3)).lems⟩ (3+0) 24:=r1;have hqb:((dvd raw).run (y9 raw%3)).q=(fdY raw 0).1.q:=r1.q;obtain⟨RV,hRV⟩:∃ RV:Nat->List Dec->Prop,∀ j P,RV j P=Rv (fdY raw 0).1 ⟨((dvd raw).run (y9 raw%3)).q,P,((dvd raw).run (y9 raw%3)).lems⟩ (3+j) 24:=⟨_,λ_ _=>rfl⟩;have hRl:∀ j P,RV j P->P.length<=3+j:=λj P h=>by rw[hRV] at h;exact h.pl
 simp only[<-hRV] at hF h0;have c4':zC 12 [iV 2,sv (jJ raw),av (jJ raw).q.goal] (oRL (mE raw)):=by rw[hgl];exact c4
 clear hRV u1 u2 u3 u4 d1 d2 d3 eO hgl r1 hqb hx c4;generalize mE raw=O at *;generalize clo raw=CL at *;generalize aA raw=CLL at *;generalize jJ raw=S3 at *;generalize Jl raw=S2 at *;generalize (dvd raw).run (y9 raw%3)=R1 at *;generalize dvd raw=X0 at *;obtain⟨S,hS⟩:∃ S:Nat->Nat,∀ i,S i=y9 (raw.take i):=⟨_,λ_=>rfl⟩;have hfull:raw.take raw.length=raw:=v9;have hS0:S 0=0:=by grind
 have hSl:S raw.length=y9 raw:=by grind
 simp only[<-hS] at hle hst;clear hS hfull;generalize y9 raw=M at *;subst eC eL;obtain⟨⟨⟨n',us,os⟩,⟨lo,hi',rows⟩,⟨ts,c'⟩⟩,P0,L⟩:=R1;obtain⟨G,hG⟩:∃ G:Nat->Nat->List Dec->Scp,∀ k j P,G k j P=opnG M k j ⟨⟨⟨n',us,os⟩,⟨lo,hi',rows⟩,⟨ts,c'⟩⟩,P,L⟩:=⟨_,λ_ _ _=>rfl⟩;have hG0:∀ j P,G 0 j P=⟨⟨⟨n',us,os⟩,⟨lo,hi',rows⟩,⟨ts,c'⟩⟩,P,L⟩:=λj P=>by rw[hG];rfl
 dsimp only at *;simp only[<-hG] at hF e0;clear hG;unfold oRL at c4';generalize zI (oV O)=Y at *;generalize oV O=y at *;generalize mR (oL O)=ML at *;generalize O.isSome=ob at *;dsimp only [sv] at *;cbv;refine cA c1 ?_;cbv;refine z7 (σ:=Nat) (λi=>⟨[(0,u8v raw),(2,.ptr 2 0),(4,.ptr 4 0),(5,iV ((S i:Int))),(6,iV i)],
   [(2,.box [iV 0,.nil,.nil,.nil,.nil,.nil,.nil,.ff,.nil,.nil,.nil,.nil]),(4,.box (sc X0))]⟩)
  (λi=>i<=raw.length) (λi=>raw.length-i) 0 (xA _) (.le (by cbv;repeat' first|exact trivial|exact lR|exact zB (by rw[hS0];rfl)|exact zB om|apply And.intro) okZ rfl) ?_
 intro i hi;cbv;refine zF (λh=>?_) (λh=>?_)
 ·(have hlt:i<raw.length:=by rw[zA] at h;exact om);obtain⟨w,hw⟩:=zS hlt
  have e:=hst i w hw;have e2:=hle i;have e3:=hle (i+1);have hw8:=w.toNat_lt;have e4:=CS w;clear hst hle c1 c2 he hF;cbv;refine yL hw oA eZ ?_;cbv;exact⟨zD (by rw[e4];exact om) (by rw[e4];exact om),zD om om,i+1,(show i+1<=_ by omega),(show raw.length-(i+1)<raw.length-i by omega),.le (by cbv;repeat' first|exact trivial|exact lR|exact zB (by rw[e4,e];exact om)|exact zB om|apply And.intro) okZ rfl⟩
 have hi':i=raw.length:=by rw[zA] at h;exact om
 subst hi';have hm3:irem ((M:Nat):Int) 3=((M%3:Nat):Int):=wH (b:=3);have hm2:irem ((M:Nat):Int) 2=((M%2:Nat):Int):=wH (b:=2);have hk4:∀ j:Nat,irem ((M:Int)+7*(j:Int)) 4=(((M+7*j)%4:Nat):Int):=λj=>wH (a:=M+7*j) (b:=4);clear hst hle h;rw[hSl];cbv;refine⟨wG om,?_⟩;cbv;refine yJ rfl (by exact⟨zB hm3,okA,lR,trivial⟩) c2 rfl ?_;cbv;refine z7 (σ:=Nat×List Dec) (λt=>⟨[(2,.ptr 2 0),(4,.ptr 4 0),(5,iV M),(7,iV t.1)],[(2,.box [iV 0,.nil,.nil,.nil,.nil,.nil,.nil,.ff,.nil,.nil,.nil,.nil]),(4,.box [iV n',alv us,alv os,rlv lo,rlv hi',alv rows,tsv ts,zL c'.neg,nat c'.num,nat c'.den,dlv t.2,llv L])]⟩)
  (λt=>t.1<=us.length/\G (us.length-t.1) t.1 t.2=S2/\RV t.1 t.2) (λt=>us.length-t.1) (0,P0) ⟨xA _,e0.symm,h0⟩ (wkZ) ?_
 intro t ht;obtain⟨j,P⟩:=t;obtain⟨h1,h2,h3⟩:=ht;dsimp only at h1 h2 h3;clear e0 h0 c1 c2;cbv;refine zF (λh=>?_) (λh=>?_)
 ·(have hlt:j<us.length:=by rw[zA] at h;exact om);obtain⟨ph,cph,f1,f2⟩:=hF j P h3 hlt
  have hk:=hk4 j;have hPl:=hRl j P h3;rw[show us.length-j=us.length-(j+1)+1 by omega] at h2;generalize (M+7*j)%4=kk at *;clear hF hk4 he hm3 hm2 hRl h3 c3 c4' c5;cbv;refine⟨zD om om,zD om om,wG om,?_⟩;cbv;refine cA cph ?_;cbv;refine zQ (λez=>?_) (λez=>?_)
  ·cbv;refine zF (λek=>?_) (λek=>?_)
   ·(have ek':kk<2:=by exact om);obtain⟨g1,g2⟩:=f1 ⟨ez,ek'⟩
    (have h4:=(g1 _).symm.trans h2;have hT:((enc dc P++zW [dc ⟨1+(kk:Int),j,R0⟩]).drop 0).take (P.length+1)=enc dc (P++[⟨1+(kk:Int),j,R0⟩]):=by rw[show enc dc (P++[⟨1+(kk:Int),j,R0⟩])=enc dc P++zW [dc ⟨1+(kk:Int),j,R0⟩] by simp[enc,zW],wZ,yU (by simp[zA,zW])]);clear f1 f2 g1 h2
    cbv;refine bN iK rfl rfl rfl rfl rfl rfl (xE qP _) (z8 oM (by grind [zA])) rfl ?_;cbv;refine⟨zD om om,?_⟩;refine jU iK rfl rfl rfl oM rfl ⟨by simp[zW,xT]⟩ (z8 oM (by simp[zW,zA] at *;exact om)) rfl ?_;cbv;refine⟨zD om om,(j+1,P++[⟨1+(kk:Int),j,R0⟩]),⟨(show j+1<=us.length by omega),h4,g2⟩,(show us.length-(j+1)<us.length-j by omega),.trans (.le (ps':=⟨[(2,.ptr 2 0),(4,.ptr 4 0),(5,iV M),(7,iV (((j+1:Nat):Int)))],[(2,.box [iV 0,.nil,.nil,.nil,.nil,.nil,.nil,.ff,.nil,.nil,.nil,.nil]),(4,.box [iV n',alv us,alv os,rlv lo,rlv hi',alv rows,tsv ts,zL c'.neg,nat c'.num,nat c'.den,yX 59 5 (P.length+1),llv L]),(59,xF 5 (enc dc P++zW [dc ⟨1+(kk:Int),j,R0⟩]))]⟩) okZ ?_ rfl) (.trans (.frz 59 rfl rfl (by cbv;repeat' first|exact trivial|exact zZ (by simp[zA,zW])|apply And.intro) (by cbv;repeat' first|exact trivial|exact zZ (by simp[zA,zW])|apply And.intro)) (.le okZ ?_ rfl))⟩;{cbv;refine⟨okA,⟨lR,lR,lR,lR,lR,lR,lR,lR,lR,lR,zT rfl (by simp[zA,zW]),lR,trivial⟩,zG ?_,trivial⟩;rw[hk];rfl};{cbv;exact⟨okA,⟨lR,lR,lR,lR,lR,lR,lR,lR,lR,lR,zR hT,lR,trivial⟩,trivial⟩}
   {have g:=f2 (λh=>ek (by exact om));have h4:=(g.1 _).symm.trans h2;have g2:=g.2;clear f1 f2 g h2;cbv;exact⟨zD om om,(j+1,P),⟨(show j+1<=us.length by omega),h4,g2⟩,(show us.length-(j+1)<us.length-j by omega),wkZ⟩}
  {have g:=f2 (λh=>ez h.1);have h4:=(g.1 _).symm.trans h2;have g2:=g.2;clear f1 f2 g h2;cbv;exact⟨zD om om,(j+1,P),⟨(show j+1<=us.length by omega),h4,g2⟩,(show us.length-(j+1)<us.length-j by omega),wkZ⟩}
 ·(have hj:j=us.length:=by rw[zA] at h;exact om);rw[hj,W7,hG0] at h2
  subst h2;clear hF hG0 hRl hk4 h3;dsimp only at c3;cbv;refine⟨wG om,?_⟩;cbv;refine kU (σ:=Unit) (λ_=>⟨[(2,.ptr 2 0),(4,.ptr 4 0)],[(2,.box [iV 0,.nil,.nil,.nil,.nil,.nil,.nil,.ff,.nil,.nil,.nil,.nil]),(4,.box (sc S3))]⟩) (λ_=>True) (λe=>?_) (λe=>?_) (λ_ _=>?_);{rw[if_pos (by exact om)] at he;rw[<-he] at c3;cbv;refine cA c3 ?_;cbv;exact⟨(),trivial,wkZ⟩};{rw[if_neg (by exact om)] at he;cbv;rw[he];exact⟨(),trivial,wkZ⟩};{clear he c3 hm2 hm3;cbv;refine cA c4' ?_;cbv;refine cA c5 ?_;cbv;exact rA}
def Rz (raw:List UInt8):Cv (fdY raw 0).1 (clo raw) 7 32/\DomR (jJ raw) (2^13) (2^16) (mE raw):=by
 have hx:=pH raw;have hgl:(jJ raw).q.goal=fA (fdY raw 0).1.goal:=by rw[(lM raw).q];rfl
 have d3:=(Jk raw).2 2;have eO:(jJ raw).dom 2 (fdY raw 0).1.goal=mE raw:=by unfold mE;rw[hgl,qG]
 rw[eO] at d3;exact⟨MC raw d3.v,d3⟩
end Go.Proofs.YtaeaffgjdcigoaaGreat
