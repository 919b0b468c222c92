/- A part of the proof: EvB. -/
import Derived.Test.YtaeaffgjdcigoaaGreatG41
import Derived.Test.YtaeaffgjdcigoaaGreatG26
set_option linter.all false
namespace Go.Proofs.YtaeaffgjdcigoaaGreat
open Go
set_option maxRecDepth 100000
set_option maxHeartbeats 4000000
def VY (f:F):∀ (us:List F) (l:List Rat),vW (us++[f]) l=vW us l++[iE (f.at (xr (vW us l))) 0]
 |[],l=>rfl| g::r,l=>by rw[Yh];unfold vW;exact VY f r _
structure VSeq (x:FGrp) (l:List Rat) (V:Nat->List Rat):Prop where
 v0:V 0=l
 v1:∀ (j:Nat) f,x.us[j]?=some f->V (j+1)=V j++[iE (f.at (xr (V j))) 0]
 v9:V x.us.length=vW x.us l
 len:∀ j,j<=x.us.length->(V j).length=l.length+j
 fit:∀ j q,q∈V j->Fits (2^24) q
def Sm {x:FGrp}(hx:x.small)(hw:∀ (i:Nat) (f:F),x.us[i]?=some f->f.wf ((x.n+i:Nat):Int)){l:List Rat}(hl:l.length=x.n){m:Nat}(hm:1<=m)(hm2:m<=2^10)(hf:∀ q,q∈l->Fits m q):∃ V,VSeq x l V:=by
 refine⟨λj=>vW (x.us.take j) l,rfl,λj f h=>?_,by show vW (x.us.take x.us.length) l=_;rw[wW],λj hj=>?_,λj q hq=>?_⟩;{show vW (x.us.take (j+1)) l=_;rw[dI,h];exact VY f _ _};{show (vW (x.us.take j) l).length=_;rw[mS,kV];omega}
 ·(have h4:=hx.us;have hk:(x.us.take j).length<=4:=by rw[kV];omega);have:=VZ hm (us:=x.us.take j) (l:=l) (λi f h=>by rw[hl];exact hw i f (by rw[List.getElem?_take] at h;split at h;exact h;cases h)) (λf h=>hx.uf f (s7 h)) hf hk q hq
  refine this.mono ?_;have e:(8:Nat)^(x.us.take j).length<=8^4:=dH (by decide) hk
  calc (m+60)*8^(x.us.take j).length<=(2^10+60)*8^4:=Nat.mul_le_mul oM e
   _<=2^24:=by decide
def KR (x:FGrp)(l:List Rat)(hx:x.small)(hv:x.g.valid=true)(hz:x.g.sz (2^32))(hw:∀ (i:Nat) (f:F),x.us[i]?=some f->f.wf ((x.n+i:Nat):Int))(hl:l.length=x.n){m:Nat}(hm:1<=m)(hm2:m<=2^10)(hf:∀ q,q∈l->Fits m q):zD 86 [gv x.g,rlv (l.map zG)] (.tup [rlv ((vW x.us l).map zG),iV 0]):=by
 refine sF Tryz.f86 ?_;have cv:=CV x.g hz;rw[hv] at cv;have cc:∀ q,q∈l->zD 113 [rv (zG q)] (rv (zG q)):=λq hq=>by have:=s47 (zG q) ((zT (hf q hq)).mono oM);rw[zV] at this;exact this
 have n2:=hx.n2;have u4:=hx.us;obtain⟨V,Q⟩:=Sm hx hw hl hm hm2 hf;have facts:∀ j,j<x.us.length->∃ (p:A) (y z:R),(x.us.map fA)[j]?=some p/\zD 88 [av p,rlv ((V j).map zG)] (.tup [rv y,iV 0])/\zD 153 [rv y,rv ⟨false,[],[]⟩] (rv z)/\(V (j+1)).map zG=(V j).map zG++[z]:=λj hj=>by obtain⟨f,hfj⟩:=zO hj;have hvl:=Q.len j oM;have hwf:=hw j f hfj;have hfl:=hx.uf f (zX hfj);rw[<-hl,<-hvl] at hwf;have ce:=GY f (V j) hfl hwf (Q.fit j) (by decide) (by decide) (by decide) (by decide) oM;have cm:=s70 (zG (f.at (xr (V j)))) ⟨false,[],[]⟩ ((zT (ZB hfl (VU hwf (Q.fit j)))).mono (by decide)) ⟨by decide,by decide⟩;rw[zV] at cm;have e0:(⟨false,[],[]⟩:R).q=0:=rfl;rw[e0] at cm;exact⟨fA f,_,_,by rw[uY,hfj];rfl,ce,cm,by rw[Q.v1 j f hfj,gH];rfl⟩
 have v0:=Q.v0;have v9:=Q.v9;have vl:=Q.len;rw[<-v9];have hU:x.g.us=x.us.map fA:=rfl;have hUl:(x.us.map fA).length=x.us.length:=y8 ..;have hn:x.g.n=(l.length:Int):=by rw[hl];rfl
 clear Q hw hf v9 hz hx hv;generalize x.g=g at *;obtain⟨gn,us,os⟩:=g;dsimp only at hU hn;subst hU hn;have ccl:∀ (i:Nat) q,l[i]?=some q->(l.map zG)[i]?=some (zG q)/\(l.map zG).take (i+1)=(l.map zG).take i++[zG q]:=λi q h=>by
  (have:(l.map zG)[i]?=some (zG q):=by rw[uY,h];rfl);exact⟨this,by rw[dI,this];rfl⟩
 have cx:∀ i,i<l.length->∃ r,zD 113 [rv r] (rv r)/\(l.map zG)[i]?=some r/\(l.map zG).take (i+1)=(l.map zG).take i++[r]:=λi h=>by obtain⟨q,hq⟩:=zO h;exact⟨zG q,cc q (zX hq),(ccl i q hq).1,(ccl i q hq).2⟩
 clear cc ccl;have hXl:(l.map zG).length=l.length:=y8 ..;have hv0:(V 0).map zG=(l.map zG).take l.length:=by rw[v0,<-hXl,wW]
 have vl':∀ j,j<=x.us.length->((V j).map zG).length=l.length+j:=λj h=>by rw[y8];exact vl j h
 obtain⟨W,hW⟩:∃ W:Nat->List R,∀ j,(V j).map zG=W j:=⟨_,λ_=>rfl⟩;simp only[hW] at facts vl' hv0 ⊢;clear hW vl v0;generalize l.map zG=X at *;generalize x.us.length=M at *;generalize x.us.map fA=us at *;generalize hln:l.length=n at *;have hlx:X.length=n:=hXl;have htl:∀ i,i<=n->(X.take i).length=i:=λi h=>by rw[kV];omega
 cbv;refine cA cv ?_;cbv;refine rR rfl ?_;cbv;refine zE (λe=>?_) (λe=>(e (by rw[zA];exact om)).elim);cbv;refine zW (σ:=Nat) (λi=>⟨[(1,rlv X),(2,.ptr 2 0),(6,oV 6 3 ((X.take i).length)),(7,iV i)],[(2,.box [iV n,alv us,alv os]),(6,aV 3 (enc rc (X.take i)))]⟩)
  (λi=>i<=n) (λi=>n-i) 0 (yU _)
  (.trans (wkZ (ps':=⟨[(1,rlv X),(2,.ptr 2 0),(6,.nil),(7,iV (((0:Nat):Int)))],[(2,.box [iV n,alv us,alv os])]⟩)) (.trans (.adoptT (ps:=⟨[(1,rlv X),(2,.ptr 2 0),(6,.nil),(7,iV (((0:Nat):Int)))],[(2,.box [iV n,alv us,alv os])]⟩) 6 3 6 rfl rfl) (wkZ))) ?_
 intro i hi';have hti:=htl i hi';cbv;refine zE (λh=>?_) (λh=>?_)
 ·(have hlt:i<n:=by rw[zA] at h;exact om);obtain⟨r,c1,g1,g2⟩:=cx i hlt
  clear cx facts vl';cbv;refine yB g1 vA uF ?_;cbv;refine cA c1 ?_;cbv;refine wU ZL rfl rfl rfl (by simp[zA,zL]) rfl ⟨by simp[zL,xE]⟩ (z5 (by simp[zL,zA] <;> omega) (by simp[zL,zA] at *;exact om)) rfl ?_;cbv;exact⟨zC om om,i+1,(by show i+1<=n;omega),(by show n-(i+1)<n-i;omega),wkY (by cbv;repeat' first|exact trivial|exact lR|exact zB om|exact zZ rfl (by first|rfl|(rw[g2];done)|(simp[zL,zA,htl,hlx];done)|(rw[g2];simp[zL,zA];done))|exact zH (by first|rfl|(rw[g2];done)|(rw[g2];rfl)|(rw[<-xZ];rfl)|(rw[g2,<-xZ];rfl))|apply And.intro)⟩
 have hin:i=n:=by rw[zA] at h;exact om
 rw[hin];clear hin hti hi' h cx;cbv;refine zW (σ:=Nat) (λj=>⟨[(2,.ptr 2 0),(6,oV 6 3 ((W j).length)),(8,iV j)],[(2,.box [iV n,alv us,alv os]),(6,.log 3 (λ_=>enc rc (W j)))]⟩)
  (λj=>j<=M) (λj=>M-j) 0 (yU _) (.trans (.lend 6 8 rfl rfl trivial) (wkY (by cbv;repeat' first|exact trivial|exact lR|exact zB om|exact zZ rfl (by first|rfl|(rw[hv0];done)|(simp[zL,zA,htl,hlx];done)|(rw[hv0];simp[zL,zA];done))|exact zH (by first|rfl|(rw[hv0];done)|(rw[hv0];rfl)|(rw[<-xZ];rfl)|(rw[hv0,<-xZ];rfl))|apply And.intro))) ?_
 intro j hj;have lj:=vl' j hj;cbv;refine zE (λh=>?_) (λh=>?_)
 ·(have hlt:j<M:=by rw[zA,hUl] at h;exact om);obtain⟨p,y,z,g1,c1,c2,g2⟩:=facts j hlt
  have hT:=p5 rc (W j);have hfr:=Q3 rc (W j);clear facts vl';generalize W j=Wj at *;cbv;refine yB g1 qS j6 ?_;cbv;refine qF (.lend 6 48 rfl rfl ?_) rfl ?_ c1 rfl ?_
  ·cbv
   repeat' first|exact trivial|exact⟨hfr⟩|apply And.intro
  {cbv;exact⟨okA,zS hT,trivial⟩};cbv;refine yP rfl okA c2 rfl ?_;cbv;refine p7 ZL rfl rfl rfl (by simp[zA,zL]) rfl ⟨by simp[zL,xE]⟩ (z5 (by simp[zL,zA] <;> omega) (by simp[zL,zA] at *;exact om)) rfl ?_;cbv;exact⟨zC om om,j+1,(by show j+1<=M;omega),(by show M-(j+1)<M-j;omega),wkY (by cbv;repeat' first|exact trivial|exact lR|exact zB om|exact zZ rfl (by first|rfl|(rw[g2];done)|(simp[zL,zA,htl,hlx];done)|(rw[g2];simp[zL,zA];done))|exact zH (by first|rfl|(rw[g2];done)|(rw[g2];rfl)|(rw[<-xZ];rfl)|(rw[g2,<-xZ];rfl))|apply And.intro)⟩
 have hjn:j=M:=by rw[zA,hUl] at h;exact om
 rw[hjn];clear hjn lj hj h facts vl';generalize W M=X' at *;have hT:=p5 rc X';have hfr:=Q3 rc X';cbv;refine cZ _ (.trans (.le (ps':=⟨[(4,oV 6 3 X'.length),(5,iV 0)],[(6,.log 3 (λ_=>enc rc X'))]⟩) ?_ ?_ rfl) (.frz 6 rfl rfl ?_ ?_)) rfl ?_;{cbv;exact okA};{cbv;exact⟨zH rfl,trivial⟩}
 ·cbv
  repeat' first|exact trivial|exact⟨hfr⟩|apply And.intro
 ·cbv
  repeat' first|exact trivial|apply And.intro
 cbv;exact⟨zS hT,lR,trivial⟩
end Go.Proofs.YtaeaffgjdcigoaaGreat
