/- A part of the proof: AlA, AlB, AlC, SpX, BrC. -/
import Derived.Test.YtaeaffgjdcigoaaGreatG28
import Derived.Test.YtaeaffgjdcigoaaGreatG26
import Derived.Test.YtaeaffgjdcigoaaGreatG27
import Derived.Test.YtaeaffgjdcigoaaGreatG21
import Derived.Test.YtaeaffgjdcigoaaGreatG39
import Derived.Test.YtaeaffgjdcigoaaGreatG40
import Derived.Test.YtaeaffgjdcigoaaGreatG25
set_option linter.all false
namespace Go.Proofs.YtaeaffgjdcigoaaGreat
open Go
set_option maxRecDepth 100000
set_option maxHeartbeats 4000000
def Mf (s:Scp)(j:Int)(hs:s.sz (2^20)):zD 110 [sv s,iV j] (.tup [bV (s.onU j),bV (s.offU j)]):=by
 refine sF Tryz.f110 ?_;have cb:=fN s j hs.lems;have cd1:=oN s 1 j (hs.path.mono (by decide));have cd2:=oN s 2 j (hs.path.mono (by decide));have csg:∀ m,m∈s.lems->zD 30 [rv m.v] (iV (z3 m.v.q)):=λm hm=>s35 m.v (by have:=(hs.lems.sz m hm).n;omega);have hlen:=hs.lems.len;have hbb:∀ k:Nat,(k=(s.best j).1\/k=(s.best j).2)->k≠0->∃ m,s.lems[k-1]?=some m/\k-1<s.lems.length:=λk hk h0=>by obtain⟨m,hm,_⟩:=kS hk h0;exact⟨m,hm,(xP.1 hm).1⟩
 have hb1:=hbb _ (.inl rfl);have hb2:=hbb _ (.inr rfl);clear hbb;have hv:∀ (k:Nat) m,s.lems[k-1]?=some m->qT s.lems k=m.v.q:=λk m h=>by unfold qT;rw[h];rfl
 have hon:s.onU j=(s.dcd 1 j || (decide (0<(s.best j).1)&&decide (0<=z3 (qT s.lems (s.best j).1)))):=rfl;have hoff:s.offU j=(s.dcd 2 j || (decide (0<(s.best j).2)&&decide (z3 (qT s.lems (s.best j).2)<=0))):=rfl;generalize s.onU j=on at *;generalize s.offU j=off at *;generalize s.dcd 1 j=d1 at *;generalize s.dcd 2 j=d2 at *;generalize (s.best j).1=b1 at *;generalize (s.best j).2=b2 at *;have o11:d1=true->on=true:=λh=>by rw[hon,h];rfl
 have o12:d1=false->b1=0->on=false:=λh g=>by rw[hon,h,g];rfl
 have o13:d1=false->∀ m,s.lems[b1-1]?=some m->0<b1->on=decide (0<=z3 m.v.q):=λh m hm g=>by rw[hon,h,hv b1 m hm,decide_eq_true g];rfl
 have o21:d2=true->off=true:=λh=>by rw[hoff,h];rfl
 have o22:d2=false->b2=0->off=false:=λh g=>by rw[hoff,h,g];rfl
 have o23:d2=false->∀ m,s.lems[b2-1]?=some m->0<b2->off=decide (z3 m.v.q<=0):=λh m hm g=>by rw[hoff,h,hv b2 m hm,decide_eq_true g];rfl
 clear hon hoff hv hs;obtain⟨⟨⟨gn,us,os⟩,⟨lo,hi,rows⟩,⟨ts,c1,c2,c3⟩⟩,path,L⟩:=s;dsimp only at csg hlen hb1 hb2 o13 o23;cbv;refine cA cb ?_;cbv;refine cA cd1 ?_;cbv;refine yA (λeA=>?_) (λeA=>?_)
 ·have qA:=o11 eA;cbv;refine cA cd2 ?_;cbv;refine yA (λeB=>?_) (λeB=>?_)
  ·have qB:=o21 eB;cbv
   (refine rC ?_;cbv)
   exact⟨yH qA,yH qB,trivial⟩
  ·cbv;refine zQ (λfB=>?_) (λfB=>?_)
   ·(have gB:b2≠0:=by exact om);obtain⟨mB,hmB,hlB⟩:=hb2 gB
    have qB:=o23 eB mB hmB oM;have csB:=csg mB (zX hmB);have ixB:∀ {K:List PV->Prop},K (lc mB)->IdxOk 6 (λ_=>enc lc L) (λ_=>(b2:Int)-1) K:=λhK=>y6 hmB oM y0 xD hK;generalize z3 mB.v.q=sgB at *;cbv;refine⟨zC (by exact om) (by exact om),ixB ?_⟩;cbv;refine cA csB ?_;cbv
    (refine rC ?_;cbv)
    exact⟨yH qA,z4 qB.symm,trivial⟩
   ·have qB:=o22 eB (by exact om);cbv
    (refine rC ?_;cbv)
    exact⟨yH qA,zK qB,trivial⟩
 ·cbv;refine zQ (λfA=>?_) (λfA=>?_)
  ·(have gA:b1≠0:=by exact om);obtain⟨mA,hmA,hlA⟩:=hb1 gA
   have qA:=o13 eA mA hmA oM;have csA:=csg mA (zX hmA);have ixA:∀ {K:List PV->Prop},K (lc mA)->IdxOk 6 (λ_=>enc lc L) (λ_=>(b1:Int)-1) K:=λhK=>y6 hmA oM y0 xD hK;generalize z3 mA.v.q=sgA at *;cbv;refine⟨zC (by exact om) (by exact om),ixA ?_⟩;cbv;refine cA csA ?_;cbv;refine cA cd2 ?_;cbv;refine yA (λeB=>?_) (λeB=>?_)
   ·have qB:=o21 eB;cbv
    (refine rC ?_;cbv)
    exact⟨z4 qA.symm,yH qB,trivial⟩
   ·cbv;refine zQ (λfB=>?_) (λfB=>?_)
    ·(have gB:b2≠0:=by exact om);obtain⟨mB,hmB,hlB⟩:=hb2 gB
     have qB:=o23 eB mB hmB oM;have csB:=csg mB (zX hmB);have ixB:∀ {K:List PV->Prop},K (lc mB)->IdxOk 6 (λ_=>enc lc L) (λ_=>(b2:Int)-1) K:=λhK=>y6 hmB oM y0 xD hK;generalize z3 mB.v.q=sgB at *;cbv;refine⟨zC (by exact om) (by exact om),ixB ?_⟩;cbv;refine cA csB ?_;cbv
     (refine rC ?_;cbv)
     exact⟨z4 qA.symm,z4 qB.symm,trivial⟩
    ·have qB:=o22 eB (by exact om);cbv
     (refine rC ?_;cbv)
     exact⟨z4 qA.symm,zK qB,trivial⟩
  ·have qA:=o12 eA (by exact om);cbv;refine cA cd2 ?_;cbv;refine yA (λeB=>?_) (λeB=>?_)
   ·have qB:=o21 eB;cbv
    (refine rC ?_;cbv)
    exact⟨zK qA,yH qB,trivial⟩
   ·cbv;refine zQ (λfB=>?_) (λfB=>?_)
    ·(have gB:b2≠0:=by exact om);obtain⟨mB,hmB,hlB⟩:=hb2 gB
     have qB:=o23 eB mB hmB oM;have csB:=csg mB (zX hmB);have ixB:∀ {K:List PV->Prop},K (lc mB)->IdxOk 6 (λ_=>enc lc L) (λ_=>(b2:Int)-1) K:=λhK=>y6 hmB oM y0 xD hK;generalize z3 mB.v.q=sgB at *;cbv;refine⟨zC (by exact om) (by exact om),ixB ?_⟩;cbv;refine cA csB ?_;cbv
     (refine rC ?_;cbv)
     exact⟨zK qA,z4 qB.symm,trivial⟩
    ·have qB:=o22 eB (by exact om);cbv
     (refine rC ?_;cbv)
     exact⟨zK qA,zK qB,trivial⟩


def xr (l:List Rat):Int->Rat:=λv=>(l[v.toNat]?).getD 0
def vW:List F->List Rat->List Rat
 |[],l=>l| f::r,l=>vW r (l++[iE (f.at (xr l)) 0])
def mS:∀ (us:List F) (l:List Rat),(vW us l).length=l.length+us.length
 |[],l=>rfl| f::r,l=>by unfold vW;rw[mS r];simp;omega
def oD:∀ (us:List F) (l:List Rat) (i:Nat),i<l.length->(vW us l)[i]?=l[i]?
 |[],l,i,_=>rfl| f::r,l,i,h=>by unfold vW;rw[oD r _ i (by simp;omega),Hf h]
def A4 {f:F}{X Y:Int->Rat}(h:∀ t,t∈f.ts->X t.1=Y t.1):f.at X=f.at Y:=by
 unfold F.at
 congr 1;generalize f.ts=l at *;induction l with
 |nil=>rfl| cons t r ih =>
  unfold evX;rw[h t xV,ih λu hu=>h u (xQ _ hu)]
def U2 {l:List Rat}{i:Nat}{q:Rat}(h:l[i]?=some q):xr l i=q:=by unfold xr;rw[mG,h];rfl
def Ch {us:List F}{l:List Rat}{f:F}(hw:f.wf (l.length:Int)):f.at (xr (vW us l))=f.at (xr l):=A4 λt ht=>by have h:=hw.v t ht;unfold xr;rw[oD us l _ oM]
def VX:∀ {us:List F} {l:List Rat} {i:Nat} {f:F},(∀ (i:Nat) (f:F),us[i]?=some f->f.wf ((l.length+i:Nat):Int))->us[i]?=some f->(vW us l)[l.length+i]?=some (iE (f.at (xr (vW us l))) 0)
 |[],l,i,f,_,h=>by simp at h| g::r,l,0,f,hw,h=>by simp only[mH,pE] at h;subst h;have hw0:=hw 0 g rfl;rw[Ch (us:=g::r) hw0];unfold vW;rw[oD r _ _ (by simp)];simp| g::r,l,i+1,f,hw,h=>by simp only[p9] at h;unfold vW;have:=VX (us:=r) (l:=l++[iE (g.at (xr l)) 0]) (i:=i) (f:=f) (λj f' hf=>by have:=hw (j+1) f' (by simpa using hf);rw[bU,Kl];rw[show l.length+1+j=l.length+(j+1) by omega];exact this) h;rw[bU,Kl] at this;rw[show l.length+(i+1)=l.length+1+i by omega];exact this
def evS (f:F) (X:Int->Rat) (i:Nat):Rat:=f.c+evX X (f.ts.take i)
def JL (X:Int->Rat)(t:Int×Rat):∀ l,evX X (l++[t])=evX X l+t.2*X t.1
 |[]=>by show t.2*X t.1+0=0+t.2*X t.1;grind| u::r=>by rw[Yh];unfold evX;rw[JL X t r];grind
def JM (f:F)(X:Int->Rat):evS f X 0=f.c:=by unfold evS;rw[List.take_zero];show f.c+0=f.c;grind
def JN {f:F}{X:Int->Rat}{i:Nat}{t:Int×Rat}(h:f.ts[i]?=some t):evS f X (i+1)=evS f X i+t.2*X t.1:=by unfold evS;rw[show f.ts.take (i+1)=f.ts.take i++[t] by rw[dI,h];rfl,JL];grind
def FL (f:F)(X:Int->Rat):evS f X f.ts.length=f.at X:=by unfold evS;rw[wW];rfl
def FX (m:Nat) (X:Int->Rat) (f:F):Prop:=∀ t,t∈f.ts->Fits m (X t.1)
def WP {f:F}{X:Int->Rat}{k n m:Nat}(hf:f.fl k n)(hx:FX m X f):∀ i,Fits (k+(k+m+1)*i) (evS f X i)
 |0=>by rw[JM];exact hf.c.mono oM| i+1=>by
  have ih:=WP hf hx i;cases h:f.ts[i]? with
  |none =>
   (have e:evS f X (i+1)=evS f X i:=by unfold evS;rw[yW (by have:=List.getElem?_eq_none_iff.1 h;omega),yW (List.getElem?_eq_none_iff.1 h)]);rw[e];exact ih.mono (by rw[Yl];omega)
  |some t =>
   rw[JN h];have hm:=zX h;exact (uK ih (yY (hf.t t hm) (hx t hm))).mono (by rw[Yl];omega)
def ZB {f:F}{X:Int->Rat}{k n m:Nat}(hf:f.fl k n)(hx:FX m X f):Fits (k+(k+m+1)*n) (f.at X):=by rw[<-FL];exact (WP hf hx _).mono (Nat.add_le_add_left (vQ _ hf.len) _)
def VU {l:List Rat}{m:Nat}{f:F}(hw:f.wf (l.length:Int))(hl:∀ q,q∈l->Fits m q):FX m (xr l) f:=λt ht=>by
 have h:=hw.v t ht;obtain⟨q,hq⟩:=zO (l:=l) (i:=t.1.toNat) oM;have e:t.1=((t.1.toNat:Nat):Int):=by omega
 rw[e,U2 hq];exact hl q (zX hq)
def Al {k m:Nat}{a b:Rat}(ha:Fits k a)(hb:Fits m b):Fits (k+m) (iE a b):=by unfold iE;split;{exact hb.mono oM};{exact ha.mono oM}
def VZ:∀ {us:List F} {l:List Rat} {m:Nat},1<=m->(∀ (i:Nat) (f:F),us[i]?=some f->f.wf ((l.length+i:Nat):Int))->(∀ f,f∈us->f.fl 43 7)->(∀ q,q∈l->Fits m q)->us.length<=4->∀ q,q∈vW us l->Fits ((m+60)*8^us.length) q
 |[],l,m,_,_,_,hl,_,q,hq=>(hl q hq).mono (by simp)| f::r,l,m,hm,hw,hf,hl,hu,q,hq=>by
  (unfold vW at hq;have h0:=hw 0 f rfl;have hv:=ZB (hf f xV) (VU (l:=l) h0 hl);have hr:r.length+1<=4:=by simpa using hu);have:=VZ (us:=r) (l:=l++[iE (f.at (xr l)) 0]) (m:=8*m+420) oM (λj f' hf'=>by
   have:=hw (j+1) f' (by simpa using hf');rw[bU,Kl,show l.length+1+j=l.length+(j+1) by omega];exact this) (λg hg=>hf g (xQ _ hg)) (λx hx=>by
   rcases uQ.1 hx with hx|hx;{exact (hl x hx).mono oM}
   ·rw[kC.1 hx];exact (Al hv (vY (k:=1) (by decide))).mono oM) oM q hq
  (refine this.mono ?_;rw[bK,uC];have e:(m+60)*(8^r.length*8)=((m+60)*8)*8^r.length:=by rw[qX (8^r.length) 8,<-gF]);rw[e]
  exact jC _ oM
def rU8 (w:World):ElR w 5 1 (λ_=>True) u8c :=
 (L6 (k:=.u8) Tryz.underlying5 (by kernel_rfl)).map (λn=>UInt8.ofNat n.toNat) (λn h=>by
  (have:0<=n/\n<=255:=by simpa[Lit.wf,IntKind.min,IntKind.max,IntKind.signed,IntKind.bits] using h);have e:((UInt8.ofNat n.toNat).toNat:Int)=n:=by rw[UInt8.toNat_ofNat_of_lt' (by show n.toNat<256;omega)];omega
  show [D.int .u8 _]=[D.int .u8 _];rw[e]) (λ_ _=>trivial)
def HV (w:World):ElR w 22 1 (λl=>l.length<=maxLen) (λl=>[u8v l]) :=
 (Pn (k:=1) Tryz.underlying22 (by kernel_rfl) (by decide) (rU8 w)).map (λl=>l) (λ_ _=>rfl) (λ_ h=>h.2)
end Go.Proofs.YtaeaffgjdcigoaaGreat
