/- A part of the proof: KpI, KpK, KpJ, KcU. -/
import Derived.Test.YtaeaffgjdcigoaaGreatW35
import Derived.Test.YtaeaffgjdcigoaaGreatW34
import Derived.Test.YtaeaffgjdcigoaaGreatW27
import Derived.Test.YtaeaffgjdcigoaaGreatW31
set_option linter.all false
namespace Go.Proofs.YtaeaffgjdcigoaaGreat
open Go
set_option maxRecDepth 100000
set_option maxHeartbeats 4000000
structure DomR (s:Scp) (V M:Nat) (o:Option (Rat×List (Row×Rat))):Prop where
 v:Fits V (oV o)
 m:∀ t,t∈oL o->Fits M t.2
 r:∀ t,t∈oL o->RoIn s t.1
 len:(oL o).length<=20
theorem DomR.no {s:Scp}{V M:Nat}(h:1<=V):DomR s V M none:=⟨uL h,λt ht=>absurd ht (by simp[oL]),λt ht=>absurd ht (by simp[oL]),by simp[oL]⟩
def LV (J:Nat):Nat:=if J<=3 then KB J else 2^13
def iZ {n J:Nat}(h1:1<=n)(h2:n<=3)(h3:J<=4):47+pgv n (n+J)<=LV J/\pgm 46 n (n+J)<=2^16/\46+sg J+13<=LV J/\J*(46+sg J)<=2^16/\3*(46+sg J)+13<=2^16/\LV J<=2^13/\pI KB n (n+J)<=2^16:=by
 have:∀ n:Fin 4,∀ J:Fin 5,1<=n.val->47+pgv n.val (n.val+J.val)<=LV J.val/\pgm 46 n.val (n.val+J.val)<=2^16/\46+sg J.val+13<=LV J.val/\J.val*(46+sg J.val)<=2^16/\3*(46+sg J.val)+13<=2^16/\LV J.val<=2^13/\pI KB n.val (n.val+J.val)<=2^16:=by decide +kernel
 exact this ⟨n,by omega⟩ ⟨J,by omega⟩ h1
def Jq {x:FQry}{s:Scp}(hx:x.small)(h:Isz x s){N hi:Nat}{G H:Nat->Nat}(hP:Pays s N hi G H){f:F}(hf:f.cd N)(hw:f.wf (hi:Int))(hh:hi<=x.g.n+x.g.us.length)(hN:N<=2^26)(hG:N+1+G hi<=2^28)(hH:H hi<=2^28):BoxOk s f:=by
 have hus:=hx.g.us;have hn2:=hx.g.n2;have hvars:s.q.g.vars=((x.g.n+x.g.us.length:Nat):Int):=by rw[h.g];show ((x.g.n:Int))+((x.g.us.map fA).length:Int)=_;grind
 have hl:=hw.len;refine⟨by rw[hvars];exact (hw.mono oM).valid,λt ht=>by have:=hw.v t ht;omega,(hf.fl hw.cn (yD _)).mono hN oM,λi a l hb=>?_,λt ht b hb=>?_⟩;{obtain⟨g1,g2,g3⟩:=HO hP hf hw i hb;exact⟨g1.mono oM,λt ht=>(g2 t ht).mono oM,by omega⟩};{have hv:=hw.v t ht;obtain⟨v,hv1⟩:∃ v:Nat,t.1=v:=⟨t.1.toNat,by omega⟩;rw[hv1] at hb;by_cases hvn:v<x.g.n;{obtain⟨g,_⟩:=XR hx h hvn hb;exact⟨g.sz.mono (by decide),λu hu=>(g.c u hu).mono (by decide),vL g.len (by decide)⟩};{obtain⟨j,rfl⟩:∃ j,v=x.g.n+j:=⟨v-x.g.n,by omega⟩;have g:=Ho h (j:=j) oM hb;have:=AE j;exact⟨g.sz.mono oM,λu hu=>(g.c u hu).mono oM,g.len⟩}}
def Ae {x:FQry}{s:Scp}(hx:x.small)(h:Isz x s){f:F}{hi:Nat}(hw:f.wf (hi:Int))(hh:hi<=x.g.n+x.g.us.length){a:Rat}{l:List (Row×Rat)}(hb:s.box f=some (a,l)):∀ t,t∈l->RoIn s t.1:=by have hus:=hx.g.us;refine WP (λt ht up b hb=>?_) (λu hu=>absurd hu (by simp)) hb;have hv:=hw.v t ht;obtain⟨v,hv1⟩:∃ v:Nat,t.1=v:=⟨t.1.toNat,by omega⟩;rw[hv1] at hb;by_cases hvn:v<x.g.n;{exact (XR hx h hvn hb).1.r};{obtain⟨j,rfl⟩:∃ j,v=x.g.n+j:=⟨v-x.g.n,by omega⟩;exact (Ho h (j:=j) oM hb).r}
def RC {x:FQry}{s:Scp}(hx:x.small)(h:Isz x s){f:F}{N J:Nat}(hf:f.cd N)(hN:N<=46)(hw:f.wf ((x.g.n+J:Nat):Int))(hJ:J<=x.g.us.length):BoxOk s f/\DomR s (LV J) (2^16) (s.box f):=by
 have hus:=hx.g.us;obtain⟨l1,l2,l3,l4,l5,l6,l7⟩:=iZ hx.g.n1 hx.g.n2 (by omega:J<=4);have hP:=Kx hx h 46 (hi:=x.g.n+J) oM;have hf:=hf.mono hN;refine⟨Jq hx h hP hf hw oM (by decide) oM oM,?_⟩;cases hb:s.box f with
 |none=>exact DomR.no oM| some y =>
  obtain⟨a,l⟩:=y;obtain⟨g1,g2,g3⟩:=HO hP hf hw f.ts.length (by rw[v9];exact hb);have hn2:=hx.g.n2;exact⟨g1.mono oM,λt ht=>(g2 t ht).mono oM,Ae hx h hw oM hb,by show l.length<=20;omega⟩
def Js {x:FQry}{s:Scp}(hx:x.small)(h:Isz x s){f:F}{N:Nat}(hf:f.cd N)(hN:N<=2^21)(hw:f.wf (x.g.n:Int)):BoxOk s f/\∃ a l,s.box f=some (a,l)/\Fits (N+13) a/\(∀ t,t∈l->Fits (3*N+6) t.2)/\(∀ t,t∈l->RoIn s t.1/\t.1.k<=4)/\Rs l/\l.length<=6:=by
 have hn2:=hx.g.n2;have hP:=Kx hx h N (hi:=x.g.n) oM;have e0:=Pb x.g.n x.g.n (yD _);have e1:=Pc N x.g.n x.g.n (yD _);have e2:(N+2)*x.g.n<=(N+2)*3:=wQ _ hn2;have hof:∀ t,t∈f.ts->∀ up,∃ b,s.ofB t.1 up=some b/\∃ v:Nat,t.1=v/\v<x.g.n:=λt ht up=>by
  (have hv:=hw.v t ht;obtain⟨v,hv1⟩:∃ v:Nat,t.1=v:=⟨t.1.toNat,by omega⟩;have hn:s.q.g.n=(x.g.n:Int):=by rw[h.g];rfl);exact⟨_,by unfold Scp.ofB;rw[hn,if_pos oM],v,hv1,by omega⟩
 refine⟨Jq hx h hP hf hw oM oM oM oM,?_⟩;have hs:(s.box f).isSome=true:=Ya λt ht up=>by obtain⟨b,hb,_⟩:=hof t ht up;grind
 cases hb:s.box f with
 |none=>grind| some y =>
  obtain⟨a,l⟩:=y;obtain⟨g1,g2,g3⟩:=HO hP hf hw f.ts.length (by rw[v9];exact hb);refine⟨a,l,rfl,g1.mono oM,λt ht=>(g2 t ht).mono oM,?_,?_,by omega⟩;{refine WP (P:=λr=>RoIn s r/\r.k<=4) (λt ht up b hb=>?_) (λu hu=>absurd hu (by simp)) hb;obtain⟨_,_,v,hv1,hvn⟩:=hof t ht up;rw[hv1] at hb;obtain⟨g,g'⟩:=XR hx h hvn hb;exact λu hu=>⟨g.r u hu,(g' u hu).2⟩};{refine QL (λt ht up b hb=>?_) Rs.nil hb;obtain⟨_,_,v,hv1,hvn⟩:=hof t ht up;rw[hv1] at hb;obtain⟨g,g'⟩:=XR hx h hvn hb;grind}
def Do {x:FQry}{s:Scp}(hx:x.small)(hok:x.ok)(h:Isz x s)(q4:∀ f,f∈x.g.us->f.cd 1){f:F}{N J:Nat}(hf:f.cd N)(hN:N<=46)(hw:f.wf ((x.g.n+J:Nat):Int))(hJ:J<=x.g.us.length):BackOk s f:=by
 have hus:=hx.g.us;have hn2:=hx.g.n2;obtain⟨l1,l2,l3,l4,l5,l6,l7⟩:=iZ hx.g.n1 hx.g.n2 (by omega:J<=4);have hvars:s.q.g.vars=((x.g.n+x.g.us.length:Nat):Int):=by rw[h.g];show ((x.g.n:Int))+((x.g.us.map fA).length:Int)=_;grind
 have hul:s.q.g.us.length=x.g.us.length:=by rw[h.g];exact y4 _
 have hl:=hw.len;have hT:J*(N+sg J)<=J*(46+sg J):=wQ _ oM;refine⟨by rw[hvars];exact (hw.mono oM).valid,(((hf.fl hw.cn (yD _)).fit oM).fA).mono oM,λj pa hp=>?_,λi y=>BP x s (N+sg J) J i y,BP.start hf hw oM,λi y hy=>?_,λj y pa z hy hp hr=>VR hx hok h q4 hp hy hr⟩;{obtain⟨g,hg,rfl⟩:=UE h.g hp;have hwg:=hok.us j g hg;have hlt:=(wE.1 hg).1;rw[qG];exact⟨rfl,hwg.cn,((q4 g (z3 hg)).fl hwg.cn hwg.len).mono (by decide) oM⟩};{obtain⟨⟨M,c1,c2⟩,w,⟨A,a1,a2⟩,len,rows⟩:=hy;have hwl:=w.len;have hm:min i J<=J:=Nat.min_le_right _ _;have hp:=c1.pos;exact⟨w.cn,⟨M,c1.fl w.cn oM,hp,by omega⟩,⟨by omega,λt ht=>(a1 t ht).mono oM⟩⟩}
def S7 {x:FQry}{s:Scp}(hx:x.small)(hok:x.ok)(h:Isz x s)(q4:∀ f,f∈x.g.us->f.cd 1){f:F}{N J:Nat}(hf:f.cd N)(hN:N<=46)(hw:f.wf ((x.g.n+J:Nat):Int))(hJ:J<=x.g.us.length):LowOk s f/\DomR s (LV J) (2^16) (s.low f):=by
 have hus:=hx.g.us;have hn2:=hx.g.n2;obtain⟨l1,l2,l3,l4,l5,l6,l7⟩:=iZ hx.g.n1 hx.g.n2 (by omega:J<=4);have hT:J*(N+sg J)<=J*(46+sg J):=wQ _ oM;refine⟨⟨Do hx hok h q4 hf hN hw hJ,λg hg=>?_⟩,?_⟩;{obtain⟨⟨M,c1,c2⟩,w,l,len,rows⟩:=Ju hx hok h q4 hf hw hJ hg;obtain⟨b1,a,m,b2,b3,b4,b5,b6,b7⟩:=Js hx h c1 oM w;rw[b2];exact⟨b1,rfl,λt ht=>(l t ht).mono oM,by omega,λt ht=>(b4 t ht).mono oM,by show m.length<=32;omega⟩}
 ·cases hb:s.back f with
  |none =>
   (have:s.low f=none:=by grind [Scp.low]);rw[this]
   exact DomR.no oM
  |some g =>
   (obtain⟨⟨M,c1,c2⟩,w,l,len,rows⟩:=Ju hx hok h q4 hf hw hJ hb;obtain⟨b1,a,m,b2,b3,b4,b5,b6,b7⟩:=Js hx h c1 oM w;have e:s.low f=some (a,xR g.2 m 1):=by unfold Scp.low;rw[hb,JK,b2];rfl);rw[e]
   have hml:=n9 1 m g.2;refine⟨b3.mono oM,λt ht=>?_,?_,by show (xR g.2 m 1).length<=20;omega⟩;{rcases X5 b6 (λt ht u hu=>λe=>by grind) t ht with g'|⟨u,hu,e⟩;{exact (l t g').mono oM};{rw[e];show Fits _ (u.2*1);rw[Rat.mul_one];exact (b4 u hu).mono oM}};{exact rT (P:=λr=>RoIn s r) (λt ht=>(b5 t ht).1) (λt ht=>(rows t ht).1)}
def QE {x:FQry}{s:Scp}(hx:x.small)(hok:x.ok)(h:Isz x s)(q4:∀ f,f∈x.g.us->f.cd 1){f:F}{N J:Nat}(hf:f.cd N)(hN:N<=46)(hw:f.wf ((x.g.n+J:Nat):Int))(hJ:J<=x.g.us.length):DomOk s f/\∀ k,DomR s (LV J) (2^16) (s.dom k f):=by have hus:=hx.g.us;obtain⟨l1,l2,l3,l4,l5,l6,l7⟩:=iZ hx.g.n1 hx.g.n2 (by omega:J<=4);obtain⟨h1,h2⟩:=RC hx h hf hN hw hJ;obtain⟨h3,h4⟩:=S7 hx hok h q4 hf hN hw hJ;refine⟨⟨h1,h3,h2.v.mono oM,h4.v.mono oM⟩,λk=>?_⟩;grind [Scp.dom]
def MS {s:Scp}(hv:s.q.valid=true){i:Nat}{p:F}(hp:s.q.g.us[i]?=some (fA p)){lo hi:Nat}{l u:Rat}(hl:s.lem lo i false=some l)(hu:s.lem hi i true=some u):SK s (upM i lo hi l u)=0\/SK s (upM i lo hi l u)=u:=by
 have f12:s.fm ⟨12,i,0,hi⟩=some ((F.num u).sub p):=by rw[uE hv (by decide) (by decide) hp,hu];rfl
 unfold upM;split
 ·(rename_i h;have f10:s.fm ⟨10,i,0,hi⟩=some ((F.var (s.q.g.n+i)).scale (-1)):=by rw[uE hv (by decide) (by decide) hp,hu];show (if pZ s ⟨10,i,0,hi⟩ u true=true then _ else none)=_;rw[if_pos (by grind [pZ])]);refine .inl ?_;simp only[SK,u9 f10];show 1*(0+(0:Rat) * -1)+0=0;grind
 ·rename_i h1;split
  ·(rename_i h;have f8:s.fm ⟨8,i,lo,0⟩=some (p.sub (F.var (s.q.g.n+i))):=by rw[uE hv (by decide) (by decide) hp,hl];show (if onB s ⟨8,i,lo,0⟩ l true=true then _ else none)=_;rw[if_pos (by grind [onB])]);refine .inr ?_;simp only[SK,u9 f8,u9 f12];show 1*(p.c+(0:Rat) * -1)+(1*(u+p.c * -1)+0)=u;grind
  ·rename_i h2;have hu0:0<u:=jZ.1 oM;have hl0:l<0:=cL.1 oM;have f13:s.fm ⟨13,i,lo,hi⟩=some (((p.sub (F.num l)).scale u).sub ((F.var (s.q.g.n+i)).scale (u-l))):=by rw[uE hv (by decide) (by decide) hp,hl,hu];show (if _/\_/\_/\_ then _ else none)=_;grind
   (have hne:u-l≠0:=by grind);have hone:1/(u-l)*(u-l)=1:=by grind
   generalize 1/(u-l)=d at *;refine .inr ?_;simp only[SK,u9 f12,u9 f13];show d*u*(u+p.c * -1)+(d*((0+(p.c+l * -1)*u)+(0+(0:Rat)*(u-l)) * -1)+0)=u;grind
def bz (n v:Nat):Nat:=if v<n then 3 else KB (v-n)
def TP (n v:Nat):pgv n (v+1)=pgv n v+(bz n v+1):=by grind [bz,pgv]
theorem Rb {s:Scp}{x:FQry}(hq:s.q=x.q)(hv:s.q.valid=true)(hx:x.small){v:Nat}(h:v<x.g.n+x.g.us.length):Fits (bz x.g.n v) (SK s (s.atLeastM v)):=by
 have hn:s.q.g.n=(x.g.n:Int):=by rw[hq];rfl
 unfold Scp.atLeastM bz;by_cases hlt:v<x.g.n
 ·(rw[if_pos hlt,if_pos oM];obtain⟨y,hy⟩:∃ y,s.q.r.lo[v]?=some y:=zS (by rw[hq];show v<(x.r.bs.map _).length;rw[y4,hx.r.bs];exact hlt);have hf:Fits 3 y.q:=by have hm:=z3 hy;rw[hq] at hm;obtain⟨b,hb,rfl⟩:=yZ.1 hm;rw[z6];exact (hx.r.bf b hb).1);simp only[SK,u9 (Bt hv hy)];show Fits 3 (1*(0+y.q * -1)+0);rw[show 1*(0+y.q * -1)+0=-y.q by grind];exact qF hf
 ·(rw[if_neg hlt,if_neg oM];have e:(v:Int)-s.q.g.n=((v-x.g.n:Nat):Int):=by omega);have hp:s.q.g.us[v-x.g.n]?=some (fA x.g.us[v-x.g.n]):=by rw[hq];show (x.g.us.map fA)[v-x.g.n]?=_;grind
  (have f5:s.fm ⟨5,((v-x.g.n:Nat):Int),0,0⟩=some (F.var (s.q.g.n+(v-x.g.n:Nat))):=by rw[uE hv (by decide) (by decide) hp];rfl);rw[e];simp only[SK,u9 f5];show Fits _ (1*(0:Rat)+0);rw[show 1*(0:Rat)+0=0 by grind];exact uL (Vd _)
theorem TX {s:Scp}{x:FQry}(hq:s.q=x.q)(hv:s.q.valid=true)(hx:x.small)(hL:LB KB s.lems){v:Nat}(h:v<x.g.n+x.g.us.length){more:List (Row×Rat)}(hm:s.atMostM v=some more):Fits (bz x.g.n v) (SK s more):=by
 have hn:s.q.g.n=(x.g.n:Int):=by rw[hq];rfl
 unfold Scp.atMostM at hm;unfold bz;by_cases hlt:v<x.g.n
 ·(rw[if_pos oM] at hm;rw[if_pos hlt];cases hm;obtain⟨y,hy⟩:∃ y,s.q.r.hi[v]?=some y:=zS (by rw[hq];show v<(x.r.bs.map _).length;rw[y4,hx.r.bs];exact hlt);have hf:Fits 3 y.q:=by have hm:=z3 hy;rw[hq] at hm;obtain⟨b,hb,rfl⟩:=yZ.1 hm;rw[z6];exact (hx.r.bf b hb).2);simp only[SK,u9 (Bu hv hy)];show Fits 3 (1*(y.q+(0:Rat) * -1)+0);grind
 ·(rw[if_neg oM] at hm;rw[if_neg hlt];have e:(v:Int)-s.q.g.n=((v-x.g.n:Nat):Int):=by omega);have hp:s.q.g.us[v-x.g.n]?=some (fA x.g.us[v-x.g.n]):=by rw[hq];show (x.g.us.map fA)[v-x.g.n]?=_;grind
  rw[e] at hm;split at hm;{cases hm}
  ·(rename_i hb;cases hm;obtain⟨b1,b2⟩:=Y6 s ((v-x.g.n:Nat):Int);have h1:(s.best ((v-x.g.n:Nat):Int)).1≠0:=λg=>hb (.inl g);have h2:(s.best ((v-x.g.n:Nat):Int)).2≠0:=λg=>hb (.inr g);obtain⟨m1,c1,c2,c3⟩:=b1 h1;obtain⟨m2,d1,d2,d3⟩:=b2 h2;rcases MS hv hp (p6 h1 c1 c2 c3) (p6 h2 d1 d2 d3) with g|g);{rw[g];exact uL (Vd _)}
   {rw[g];exact Xd hL (.inr rfl) h2}
def Uw {s:Scp}{x:FQry}(hq:s.q=x.q)(hv:s.q.valid=true)(hx:x.small)(hL:LB KB s.lems){D N hi:Nat}(hh:hi<=x.g.n+x.g.us.length){c0:Rat}:∀ {ts:List (Int×Rat)} {l l':List (Row×Rat)} {lo M e E:Nat},Cn ts->(∀ t,t∈ts->(lo:Int)<=t.1/\t.1<hi)->lo<=hi->(∀ t,t∈ts->Ov D N t.2)->0<E->E<B^e->e+N<=M->Ov (D*E) M (c0-SK s l)->s.aboveL ts l=some l' ->∃ M' e' E',0<E'/\E'<B^e'/\e'+N<=M'/\Ov (D*E') M' (c0-SK s l')/\M'+pgv x.g.n lo<=M+pgv x.g.n hi
 |[],l,l',lo,M,e,E,_,_,hlh,_,h0,h1,h2,h3,h=>by cases h;have:=n8 (hi:=hi) (λv _=>Hm x.g.n v) hlh (yD _);exact⟨M,e,E,h0,h1,h2,h3,by omega⟩
 |t::r,l,l',lo,M,e,E,hc,hb,hlh,hf,h0,h1,h2,h3,h=>by
  (obtain⟨g1,g2⟩:=hb t wI;obtain⟨v,hv1⟩:∃ v:Nat,t.1=v:=⟨t.1.toNat,by omega⟩;have hvl:v<x.g.n+x.g.us.length:=by omega);unfold Scp.aboveL at h
  (have hm:∀ {more:List (Row×Rat)},(if 0<yA t.2 then some (s.atLeastM t.1) else s.atMostM t.1)=some more->Fits (bz x.g.n v) (SK s more):=λ{more} g=>by grind [Rb,TX]);split at h
  {cases h}
  ·(rename_i more hmore;have hb1:=hm hmore;have hca:Ov D N (-(vI t.2)):=by have:=hf t wI;unfold vI;split;{simp_all};{exact this.neg});have n1:=GC h3 hca hb1 h1 h2;rw[show c0-SK s l+-(vI t.2)*SK s more=c0-SK s (xR l more (vI t.2)) by grind [ZB]] at n1;obtain⟨M',e',E',k1,k2,k3,k4,k5⟩:=Uw hq hv hx hL hh (lo:=v+1) (M:=M+bz x.g.n v+1) (e:=e+bz x.g.n v) hc.tail
    (λu hu=>by have:=hc.lt u hu;grind) oM (λu hu=>hf u (wJ _ hu))
    (Yd h0 (SK s more).den_pos) (wA h1 hb1.den) oM n1 h
   have z1:=n8 (hi:=hi) (λv _=>Hm x.g.n v) (a:=lo) (b:=v) oM oM;have z2:=TP x.g.n v;exact⟨M',e',E',k1,k2,k3,k4,by omega⟩
def Dt {s:Scp}{x:FQry}(hq:s.q=x.q)(hv:s.q.valid=true)(hx:x.small)(hL:LB KB s.lems){N hi:Nat}(hh:hi<=x.g.n+x.g.us.length){f:F}(hf:f.cd N)(hw:f.wf (hi:Int)){v:Rat×List (Row×Rat)}(h:s.above f=some v):Fits (N+1+pgv x.g.n hi) v.1:=by
 obtain⟨D,d0,d1,d2,d3⟩:=hf;unfold Scp.above at h;obtain⟨l,hl,rfl⟩:=pB.1 h;obtain⟨g1,g2,g3⟩:=Vb hq hv hx (λt ht=>by have:=hw.v t ht;omega) hl (λt ht=>absurd ht (by simp)) Rs.nil;obtain⟨g,h1,h2,h3,h4⟩:=DJ g2 g1;obtain⟨M',e',E',k1,k2,k3,k4,k5⟩:=Uw hq hv hx hL hh (D:=D) (N:=N) (c0:=f.c) (lo:=0) (M:=N+1) (e:=1) (E:=1) hw.cn (λt ht=>by have:=hw.v t ht;omega) (xA _)
  (λt ht=>by have:=d2 t.1;rw[hw.cn.co_mem ht] at this;omega) Nat.one_pos (by decide) oM (by rw[tV];show Ov _ _ (f.c-0);rw[show f.c-0=f.c by grind];exact d3.mono oM) hl
 show Fits _ (f.sub (s.sum (mR l)).2).c;rw[h1];show Fits _ (f.c+g.c * -1);rw[h3,show f.c+SK s l * -1=f.c-SK s l by grind];refine (k4.fits (Yd d0 k1) ?_).mono oM;exact uY (wA d1 k2) (dN w9 oM)
structure Rw (x:FQry) (s:Scp) (p c:Nat):Prop where
 z:Isz x s
 v:s.q.valid=true
 qz:s.q.sz (2^14)
 pl:s.path.length<=p
 len:s.lems.length<=c
 l:∀ m,m∈s.lems->(∃ q,m.v=zI q)/\Msz (2^16) m.pf/\m.pf.length<=20
 r:∀ (i:Nat) m,s.lems[i]?=some m->∀ y,y∈m.pf->RoIn ⟨s.q,s.path,s.lems.take i⟩ y.row
structure Rv (x:FQry) (s:Scp) (p c:Nat):Prop extends Rw x s p c where
 q:s.q=x.q
structure Sq (x:FQry):Prop where
 s:x.small
 o:x.ok
 u:∀ f,f∈x.g.us->f.cd 1
 g:x.goal.cd 1
def pH (raw:List UInt8):Sq (fdY raw 0).1:=⟨dY raw 0,BB raw 0,λf hf=>BE hf,BK raw _ _⟩
theorem Rw.usz {x:FQry}{s:Scp}{p c:Nat}(hx:Sq x)(h:Rw x s p c)(hp:p<=1000)(hc:c<=1000):Usz s/\s.q.sz (2^20)/\Dsz (2^20) s.path/\s.sz (2^20):=by have hpl:=h.pl;have hlen:=h.len;have hv:=h.v;have hq:=h.qz;have hd:Dsz 3 s.path:=⟨by omega,h.z.p⟩;have hl:Lsz (2^20) s.lems:=⟨by omega,λm hm=>by obtain⟨q,hq⟩:=(h.l m hm).1;obtain⟨i,_,hf⟩:=h.z.lb m hm;rw[hq,z6] at hf;rw[hq];exact zU (hf.mono (vL (AE i) (by decide))),λm hm=>(h.l m hm).2.1.mono (by decide)⟩;exact⟨⟨hq.mono (by decide),⟨hd.len,λd hd'=>(hd.sz d hd').mono (by decide)⟩,hl,hv⟩,hq.mono (by decide),⟨hd.len,λd hd'=>(hd.sz d hd').mono (by decide)⟩,⟨hq.mono (by decide),⟨hd.len,λd hd'=>(hd.sz d hd').mono (by decide)⟩,hl⟩⟩
theorem RoIn.mono {s t:Scp}{r:Row}(h:RoIn s r)(hp:s.path.length<=t.path.length)(hl:s.lems.length<=t.lems.length):RoIn t r :=
 ⟨h.i,λg=>by have:=h.p g;omega,by have:=h.lo;omega,by have:=h.hi;omega⟩
theorem Rw.add {x:FQry}{s:Scp}{p c j:Nat}(h:Rw x s p c){up:Bool}{v:Rat}{l:List (Row×Rat)}(hv:Fits (KB j) v)(hm:∀ t,t∈l->Fits (2^16) t.2)(hr:∀ t,t∈l->RoIn s t.1)(hl:l.length<=20):Rw x ⟨s.q,s.path,s.lems++[⟨j,up,zI v,mR l⟩]⟩ p (c+1) where
 z:=⟨h.z.g,h.z.r,h.z.p,h.z.pl,λm hm'=>by
  rcases uX.1 hm' with g|g;{exact h.z.lb m g}
  ·obtain rfl:=kJ.1 g;exact⟨j,rfl,by grind [z6]⟩⟩
 v:=h.v
 qz:=h.qz
 pl:=h.pl
 len:=by show (s.lems++_).length<=_;rw[gD,Ay];have:=h.len;omega
 l m hm':=by rcases uX.1 hm' with g|g;{exact h.l m g};{obtain rfl:=kJ.1 g;refine⟨⟨v,rfl⟩,⟨by grind [jN],λa ha=>?_⟩,by grind [jN]⟩;obtain⟨t,ht,rfl⟩:=yZ.1 ha;grind [zU]}
 r i m hi y hy:=by
  have hi':(s.lems++[⟨(j:Int),up,zI v,mR l⟩])[i]?=some m:=hi;by_cases hlt:i<s.lems.length;{rw[JJ hlt] at hi';show RoIn ⟨s.q,s.path,(s.lems++_).take i⟩ y.row;rw[HW oM];exact h.r i m hi' y hy}
  ·(rw[iH oM] at hi';have e:i=s.lems.length:=by grind);subst e
   simp at hi';rw[<-hi'] at hy;obtain⟨t,ht,rfl⟩:=yZ.1 hy;show RoIn ⟨s.q,s.path,(s.lems++_).take s.lems.length⟩ t.1;rw[List.take_left];exact hr t ht
theorem Rw.mono {x:FQry}{s:Scp}{p c p' c':Nat}(h:Rw x s p c)(hp:p<=p')(hc:c<=c'):Rw x s p' c':=⟨h.z,h.v,h.qz,vL h.pl hp,vL h.len hc,h.l,h.r⟩
theorem Rv.add {x:FQry}{s:Scp}{p c j:Nat}(h:Rv x s p c){up:Bool}{v:Rat}{l:List (Row×Rat)}(hv:Fits (KB j) v)(hm:∀ t,t∈l->Fits (2^16) t.2)(hr:∀ t,t∈l->RoIn s t.1)(hl:l.length<=20):Rv x ⟨s.q,s.path,s.lems++[⟨j,up,zI v,mR l⟩]⟩ p (c+1):=⟨h.toRw.add hv hm hr hl,h.q⟩
theorem Rv.mono {x:FQry}{s:Scp}{p c p' c':Nat}(h:Rv x s p c)(hp:p<=p')(hc:c<=c'):Rv x s p' c':=⟨h.toRw.mono hp hc,h.q⟩
theorem Rw.runL {x:FQry}{s:Scp}{p c j:Nat}(h:Rw x s p c)(hj:j<=3){up:Bool}{o:Option (Rat×List (Row×Rat))}(ho:DomR s (LV j) (2^16) o):Rw x ⟨s.q,s.path,s.lems++runL s j up o⟩ p (c+1):=by
 have e0:Rw x ⟨s.q,s.path,s.lems++[]⟩ p (c+1):=by rw[jV];exact h.mono (yD _) oM
 unfold Go.Proofs.YtaeaffgjdcigoaaGreat.runL;cases o with
 |none=>exact e0| some y =>
  (have v:Fits (KB j) y.1:=by have:=ho.v;unfold LV at this;rw[if_pos hj] at this;exact this);have m:∀ t,t∈y.2->Fits (2^16) t.2:=ho.m;dsimp only;by_cases g:s.strg j up (if up=true then -y.1 else y.1)=true
  {rw[if_pos g];refine h.add ?_ m ho.r ho.len;by_cases hu:up=true;{rw[if_pos hu];exact qF v};grind};grind
theorem Rw.runS {x:FQry}(hx:Sq x){s:Scp}{p c j:Nat}(h:Rw x s p c)(n:Nat){up:Bool}{f:F}(hf:f.cd 1)(hw:f.wf ((x.g.n+j:Nat):Int))(hj:j<x.g.us.length):Rw x (runS n s j up f) p (c+1):=by have hus:=hx.s.g.us;exact h.runL oM ((QE hx.s hx.o h.z hx.u hf (by decide) hw oM).2 n)
def Fb {x:FQry}{p:A}{r:List A}{j:Nat}(hu:p::r=(x.g.us.drop j).map fA):∃ g,x.g.us[j]?=some g/\p=fA g/\r=(x.g.us.drop (j+1)).map fA:=by grind [List.length_map,List.drop_eq_getElem_cons]
theorem Rw.runG {x:FQry}(hx:Sq x){p:Nat}(n:Nat):∀ {us:List A} {j c:Nat} {s:Scp},us=(x.g.us.drop j).map fA->Rw x s p c->Rw x (runG n us j s) p (c+2*us.length)
 |[],j,c,s,_,h=>h| q::r,j,c,s,hu,h=>by obtain⟨g,h1,rfl,h3⟩:=Fb hu;have hlt:=(wE.1 h1).1;have hc:=hx.u g (z3 h1);have hw:=hx.o.us j g h1;unfold Go.Proofs.YtaeaffgjdcigoaaGreat.runG;rw[qG];have:=Rw.runG hx (p:=p) n (us:=r) (j:=j+1) h3 ((h.runS hx n (up:=false) hc hw hlt).runS hx n (up:=true) hc.neg1 hw.scale hlt);grind
theorem Rw.run {x:FQry}(hx:Sq x){s:Scp}{p c:Nat}(h:Rw x s p c)(n:Nat):Rw x (s.run n) p (c+8):=by
 have hus:=hx.s.g.us;have:=h.runG hx n (us:=s.q.g.us) (j:=0) (by rw[h.z.g];rfl);have hl:s.q.g.us.length<=4:=by rw[h.z.g];show (x.g.us.map fA).length<=4;grind
 exact this.mono (yD _) oM
def Cg (n:Nat):∀ (us:List A) (j:Nat) (s:Scp),(runG n us j s).q=s.q
 |[],_,_=>rfl| p::r,j,s=>Cg n r (j+1) _
theorem Rv.run {x:FQry}(hx:Sq x){s:Scp}{p c:Nat}(h:Rv x s p c)(n:Nat):Rv x (s.run n) p (c+8):=⟨h.toRw.run hx n,(Cg n _ 0 s).trans h.q⟩
def SR {n m:Nat}{p:List Dec}(h:PathOk n m p):∀ d,d∈p->d.x.sz 3:=λd hd=>by rcases h.d d hd with⟨_,_,_,e⟩|⟨_,_,_,q,hq,e⟩;{rw[e];exact⟨xA _,xA _⟩};{rw[e];exact zU (hq.mono (by decide))}
def Mm (raw:List UInt8):Rv (fdY raw 0).1 (fdS raw) 3 0:=by obtain⟨h1,h2⟩:=Jf raw;exact⟨⟨⟨rfl,rfl,SR h1,by omega,λm hm=>absurd hm (by simp[fdS])⟩,(dY raw 0).valid (BB raw 0),(dY raw 0).sz.mono (by decide),h2,by simp[fdS],λm hm=>absurd hm (by simp[fdS]),λi m hm=>by grind [fdS]⟩,rfl⟩
def HS {x:FQry}{s:Scp}(hx:x.small)(hq:s.q=x.q){v:Nat}(hv:v<x.g.n+x.g.us.length):∀ t,t∈s.atLeastM v->RoIn s t.1:=λt ht=>by
 have hn:s.q.g.n=(x.g.n:Int):=by rw[hq];rfl
 have hn2:=hx.g.n2;have hus:=hx.g.us;have z:(0:Int)<=0/\(0:Int)<=(s.lems.length:Int):=by omega
 unfold Scp.atLeastM at ht;rw[hn] at ht;split at ht;{obtain rfl:=kJ.1 ht;grind [sP]};{obtain rfl:=kJ.1 ht;show RoIn s ⟨5,(v:Int)-(x.g.n:Int),0,0⟩;rw[show (v:Int)-(x.g.n:Int)=((v-x.g.n:Nat):Int) by omega];grind [sP]}
def Dp {x:FQry}{s:Scp}(hx:x.small)(hq:s.q=x.q){v:Nat}(hv:v<x.g.n+x.g.us.length){m:List (Row×Rat)}(hm:s.atMostM v=some m):∀ t,t∈m->RoIn s t.1:=λt ht=>by
 have hn:s.q.g.n=(x.g.n:Int):=by rw[hq];rfl
 have hn2:=hx.g.n2;have hus:=hx.g.us;have z:(0:Int)<=0/\(0:Int)<=(s.lems.length:Int):=by omega
 unfold Scp.atMostM at hm;rw[hn] at hm;split at hm;{cases hm;obtain rfl:=kJ.1 ht;grind [sP]};{rename_i hvn;obtain⟨j,rfl⟩:∃ j,v=x.g.n+j:=⟨v-x.g.n,by omega⟩;rw[show ((x.g.n+j:Nat):Int)-(x.g.n:Int)=(j:Int) by omega] at hm;obtain⟨b1,b2⟩:=tU s j;split at hm;{cases hm};{cases hm;unfold upM at ht;split at ht;{obtain rfl:=kJ.1 ht;grind [sP]};{split at ht;{rcases yG.1 ht with rfl|ht;{grind [sP]};{obtain rfl:=kJ.1 ht;grind [sP]}};{rcases yG.1 ht with rfl|ht;{grind [sP]};{obtain rfl:=kJ.1 ht;grind [sP]}}}}}
def Ux {x:FQry}{s:Scp}(hx:x.small)(hq:s.q=x.q):∀ {ts:List (Int×Rat)} {l l':List (Row×Rat)},(∀ t,t∈ts->0<=t.1/\t.1<((x.g.n+x.g.us.length:Nat):Int))->(∀ t,t∈l->RoIn s t.1)->s.aboveL ts l=some l'->∀ t,t∈l'->RoIn s t.1
 |[],l,l',_,hl,h=>by cases h;exact hl
 |t::r,l,l',hv,hl,h=>by obtain⟨h1,h2⟩:=hv t wI;obtain⟨v,hv1⟩:∃ v:Nat,t.1=v:=⟨t.1.toNat,by omega⟩;unfold Scp.aboveL at h;split at h;{cases h};{rename_i more hmore;refine Ux hx hq (ts:=r) (λu hu=>hv u (wJ _ hu)) (rT (P:=λr=>RoIn s r) ?_ hl) h;rw[hv1] at hmore;split at hmore;{cases hmore;exact HS hx hq oM};{exact Dp hx hq oM hmore}}
def Uv {x:FQry}(hx:Sq x){s:Scp}{p c j:Nat}(h:Rv x s p c){f:F}(hf:f.cd 1)(hw:f.wf ((x.g.n+j:Nat):Int))(hj:j<x.g.us.length){v:Rat×List (Row×Rat)}(hv:s.above f=some v):Fits (KB j) v.1/\(∀ t,t∈v.2->Fits (2^16) t.2)/\(∀ t,t∈v.2->RoIn s t.1)/\v.2.length<=20:=by
 have hus:=hx.s.g.us;have hn2:=hx.s.g.n2;obtain⟨l1,l2,l3,l4,l5,l6,l7⟩:=iZ hx.s.g.n1 hx.s.g.n2 (by omega:j<=4);have hl:=hw.len;have hval:s.q.valid=true:=by rw[h.q];exact hx.s.valid hx.o
 have e:LV j=KB j:=by unfold LV;grind
 obtain⟨g1,g2,g3⟩:=JM h.q hx.s Vd h.z.lb ((hf.fl hw.cn hl).mono (by decide) oM) hw hv;refine⟨(Dt h.q hval hx.s h.z.lb oM hf hw hv).mono oM,λt ht=>(g2 t ht).mono oM,?_,by omega⟩;unfold Scp.above at hv;obtain⟨l,hl,rfl⟩:=pB.1 hv;exact Ux hx.s h.q (λt ht=>by have:=hw.v t ht;omega) (λt ht=>absurd ht (by simp)) hl
def Fh {x:FQry}(hx:Sq x){path:List Dec}{p:Nat}:∀ {us:List A} {j c:Nat} {L:List Lem},us=(x.g.us.drop j).map fA->Rv x ⟨x.q,path,L⟩ p c->Rv x ⟨x.q,path,QN x.q path us j L⟩ p (c+2*us.length)
 |[],j,c,L,_,h=>h| q::r,j,c,L,hu,h=>by
  obtain⟨g,h1,rfl,h3⟩:=Fb hu;have hlt:=(wE.1 h1).1;have hf:=hx.u g (z3 h1);have hw:=hx.o.us j g h1;unfold QN;rw[qG];have kx:=λv hv=>Uv hx h (v:=v) hf hw hlt hv;have ky:=λv hv=>Uv hx h (v:=v) hf.neg1 hw.scale hlt hv;have key:Rv x ⟨x.q,path,L++Vs j ((⟨x.q,path,L⟩:Scp).above g) ((⟨x.q,path,L⟩:Scp).above (g.scale (-1)))⟩ p (c+2):=by
   generalize (⟨x.q,path,L⟩:Scp).above g=X at *;generalize (⟨x.q,path,L⟩:Scp).above (g.scale (-1))=Y at *;cases X with
   |none =>
    cases Y with
    |none =>
     show Rv x ⟨x.q,path,L++([]++[])⟩ p (c+2);rw[jV,jV];exact h.mono (yD _) oM
    |some w =>
     obtain⟨a1,a2,a3,a4⟩:=ky w rfl;exact (h.add (qF a1) a2 a3 a4).mono (yD _) oM
   |some v =>
    obtain⟨b1,b2,b3,b4⟩:=kx v rfl;cases Y with
    |none=>exact (h.add b1 b2 b3 b4).mono (yD _) oM| some w =>
     obtain⟨a1,a2,a3,a4⟩:=ky w rfl;show Rv x ⟨x.q,path,L++([⟨(j:Int),false,zI v.1,mR v.2⟩]++[⟨(j:Int),true,zI (-w.1),mR w.2⟩])⟩ p (c+2);rw[<-Fj];exact (h.add b1 b2 b3 b4).add (qF a1) a2 (λt ht=>(a3 t ht).mono (yD _) (by grind)) a4
  have:=Fh hx (us:=r) (j:=j+1) h3 key;grind
def HI (raw:List UInt8):Rv (fdY raw 0).1 (ext raw) 3 8:=by have hx:=pH raw;have h:=Mm raw;unfold ext;split;{have:=Fh hx (us:=(fdY raw 0).1.g.us.map fA) (j:=0) (by simp) h;have hus:=hx.s.g.us;exact this.mono (yD _) (by grind)};{exact h.mono (yD _) (by decide)}
def QD (raw:List UInt8):Rv (fdY raw 0).1 (dvd raw) 3 16:=by unfold dvd;split;{exact (HI raw).run (pH raw) _};{exact (HI raw).mono (yD _) (by decide)}
theorem Rv.dec {x:FQry}{s:Scp}{p c:Nat}(h:Rv x s p c){d:Dec}(hd:d.x=R0)(hp:p<1000):Rv x ⟨s.q,s.path++[d],s.lems⟩ (p+1) c:=by
 have hpl:=h.pl;have hl:(s.path++[d]).length=s.path.length+1:=by grind
 refine⟨⟨⟨h.z.g,h.z.r,λe he=>?_,by grind,h.z.lb⟩,h.v,h.qz,by grind,h.len,h.l,λi m hi y hy=>(h.r i m hi y hy).mono (by grind) (yD _)⟩,h.q⟩;rcases uX.1 he with g|g;{exact h.z.p e g};{obtain rfl:=kJ.1 g;rw[hd];exact⟨xA _,xA _⟩}
theorem Rv.opnG {x:FQry}{n:Nat}:∀ {k j p c:Nat} {s:Scp},p+k<1000->Rv x s p c->Rv x (opnG n k j s) (p+k) c
 |0,j,p,c,s,_,h=>h| k+1,j,p,c,s,hp,h=>by unfold Go.Proofs.YtaeaffgjdcigoaaGreat.opnG;rw[show p+(k+1)=p+1+k by omega];refine Rv.opnG (k:=k) oM ?_;split;{exact h.dec rfl oM};{exact h.mono oM (yD _)}
def lM (raw:List UInt8):Rv (fdY raw 0).1 (jJ raw) 7 32:=by
 have hx:=pH raw;have hus:=hx.s.g.us;have h1:=(QD raw).run hx (y9 raw%3);have hl:((dvd raw).run (y9 raw%3)).q.g.us.length<=4:=by rw[h1.q];show ((fdY raw 0).1.g.us.map fA).length<=4;grind
 have h2:=(Rv.opnG (n:=y9 raw) (k:=((dvd raw).run (y9 raw%3)).q.g.us.length) (j:=0) oM h1).mono (p':=7) (c':=24) oM oM;unfold jJ;dsimp only;split;{exact h2.run hx 1};{exact h2.mono (yD _) (by decide)}
def CS (w:UInt8):nx .i64 (w.toNat:Int)=(w.toNat:Int):=by have:=w.toNat_lt;unfold nx;simp[IntKind.wrap,IntKind.signed,IntKind.bits];omega
def lN {raw:List UInt8}{i:Nat}{w:UInt8}(h:raw[i]?=some w):y9 (raw.take (i+1))=y9 (raw.take i)+w.toNat:=by unfold y9;rw[tC,h];simp
def Zs (raw:List UInt8):∀ i,y9 (raw.take i)<=255*i
 |0=>by simp[y9]| i+1=>by
  cases h:raw[i]? with
  |none =>
   (have:raw.take (i+1)=raw.take i:=by rw[tC,h];simp);rw[this]
   have:=Zs raw i;omega
  |some w =>
   rw[lN h];have:=Zs raw i;have:=w.toNat_lt;omega
def L3 (raw:List UInt8)(hr:raw.length<2^38):zC 109 [u8v raw] (sv (ext raw)):=by
 refine sF Tryz.f109 ?_;have c1:=D3 raw hr;have c2:=So raw;have he:ext raw=if 0<y9 raw%3 then (fdS raw).bounded else fdS raw:=rfl
 have hsd:fdS raw=⟨(fdY raw 0).1.q,(fdS raw).path,[]⟩:=rfl;have hle:=Zs raw;have hst:=λi w h=>lN (raw:=raw) (i:=i) (w:=w) h;obtain⟨E,hE⟩:=ex (ext raw);rw[hE] at he ⊢;generalize (fdS raw).bounded=Bd at *;generalize (fdS raw).path=path at *;rw[hsd] at c1 c2 he;generalize (fdY raw 0).1.q=Q at *;clear hsd hE;obtain⟨⟨n,us,os⟩,⟨lo,hi',rows⟩,⟨ts,c⟩⟩:=Q;have hfull:raw.take raw.length=raw:=v9;obtain⟨S,hS⟩:∃ S:Nat->Nat,∀ i,S i=y9 (raw.take i):=⟨_,λ_=>rfl⟩;have hS0:S 0=0:=by rw[hS];rfl
 have hSl:y9 raw=S raw.length:=by rw[hS,hfull]
 rw[hSl] at he;simp only[<-hS] at hle hst;clear hS hSl hfull;cbv;refine cA c1 ?_;cbv;refine z7 (σ:=Nat) (λi=>⟨[(0,u8v raw),(2,.ptr 2 0),(3,.ptr 3 0),(4,iV ((S i:Int))),(5,iV i)],
   [(2,.box [iV 0,.nil,.nil,.nil,.nil,.nil,.nil,.ff,.nil,.nil,.nil,.nil]),(3,.box [iV n,alv us,alv os,rlv lo,rlv hi',alv rows,tsv ts,zL c.neg,nat c.num,nat c.den,dlv path,.nil])]⟩)
  (λi=>i<=raw.length) (λi=>raw.length-i) 0 (xA _) (.le (by cbv;repeat' first|exact trivial|exact lR|exact zB (by rw[hS0];rfl)|exact zB om|apply And.intro) okZ rfl) ?_
 intro i hi;cbv;refine zF (λh=>?_) (λh=>?_)
 ·(have hlt:i<raw.length:=by rw[zA] at h;exact om);obtain⟨w,hw⟩:=zS hlt
  have e:=hst i w hw;have e2:=hle i;have e3:=hle (i+1);have hw8:=w.toNat_lt;have e4:=CS w;clear hst hle c1 c2 he;cbv;refine yL hw oA eZ ?_;cbv;exact⟨zD (by rw[e4];exact om) (by rw[e4];exact om),zD om om,i+1,(show i+1<=_ by omega),(show raw.length-(i+1)<raw.length-i by omega),.le (by cbv;repeat' first|exact trivial|exact lR|exact zB (by rw[e4,e];exact om)|exact zB om|apply And.intro) okZ rfl⟩
 ·(have hi':i=raw.length:=by rw[zA] at h;exact om);subst hi'
  have hm:irem ((S raw.length:Nat):Int) 3=((S raw.length%3:Nat):Int):=wH (b:=3);clear hst hle;generalize S raw.length=M at *;cbv;refine⟨wG om,?_⟩;cbv;refine zF (λg=>?_) (λg=>?_);{rw[if_pos (by exact om)] at he;subst he;cbv;refine cA c2 ?_;cbv;exact rA};{rw[if_neg (by exact om)] at he;subst he;cbv;exact rA}
end Go.Proofs.YtaeaffgjdcigoaaGreat
