/- A part of the proof: EvC. -/
import Derived.Test.YtaeaffgjdcigoaaGreatG42
import Derived.Test.YtaeaffgjdcigoaaGreatG29
set_option linter.all false
namespace Go.Proofs.YtaeaffgjdcigoaaGreat
open Go
set_option maxRecDepth 100000
set_option maxHeartbeats 4000000
def iK {α β:Type}(g:α->β){l:List α}{i:Nat}{a:α}(h:l[i]?=some a):(l.take (i+1)).map g=(l.take i).map g++[g a]:=by rw[dI,h];simp
def Dx (x:FGrp)(fs:List F)(l:List Rat)(hx:x.small)(hv:x.g.valid=true)(hz:x.g.sz (2^32))(hw:∀ (i:Nat) (f:F),x.us[i]?=some f->f.wf ((x.n+i:Nat):Int))(hl:l.length=x.n){m:Nat}(hm:1<=m)(hm2:m<=2^10)(hf:∀ q,q∈l->Fits m q) (h1:fs.length<=1000) (h2:∀ f,f∈fs->f.fl 43 7/\f.wf ((x.n+x.us.length:Nat):Int)):zD 89 [gv x.g,alv (fs.map fA),rlv (l.map zG)] (.tup [rlv ((fs.map λf=>f.at (xr (vW x.us l))).map zG),iV 0]):=by
 refine sF Tryz.f89 ?_;have cv:=KR x l hx hv hz hw hl hm hm2 hf;obtain⟨V,Q⟩:=Sm hx hw hl hm hm2 hf;have vfit:∀ q,q∈vW x.us l->Fits (2^24) q:=λq hq=>Q.fit x.us.length q (by rw[Q.v9];exact hq);have vlen:(vW x.us l).length=x.n+x.us.length:=by rw[mS,hl]
 have n2:=hx.n2;have u4:=hx.us;clear Q;generalize vW x.us l=VV at *;have ce:∀ i,i<fs.length->∃ (p:A) (y:R),(fs.map fA)[i]?=some p/\zD 88 [av p,rlv (VV.map zG)] (.tup [rv y,iV 0])/\((fs.take (i+1)).map λf=>zG (f.at (xr VV)))=((fs.take i).map λf=>zG (f.at (xr VV)))++[y]:=λi hi=>by obtain⟨f,hfi⟩:=zO hi;obtain⟨g1,g2⟩:=h2 f (zX hfi);rw[<-vlen] at g2;have:=GY f VV g1 g2 vfit (by decide) (by decide) (by decide) (by decide) oM;exact⟨fA f,_,by rw[uY,hfi];rfl,this,iK _ hfi⟩
 obtain⟨W,hW⟩:∃ W:Nat->List R,∀ i,((fs.take i).map λf=>zG (f.at (xr VV)))=W i:=⟨_,λ_=>rfl⟩;have w0:W 0=[]:=by rw[<-hW];rfl
 have wl:∀ i,i<=fs.length->(W i).length=i:=λi h=>by rw[<-hW,y8,kV];omega
 have w9:(fs.map λf=>f.at (xr VV)).map zG=W fs.length:=by rw[<-hW,wW,List.map_map];rfl
 simp only[hW] at ce;rw[w9];have hFl:(fs.map fA).length=fs.length:=y8 ..;clear hW w9 h2 hf hw hx hv hz;generalize fs.map fA=FS at *;generalize fs.length=M at *;generalize VV.map zG=X at *;generalize l.map zG=LL at *;generalize x.g=g at *;obtain⟨gn,us,os⟩:=g;cbv;refine cA cv ?_;cbv;refine wZ rfl ?_;cbv;refine zW (σ:=Nat) (λi=>⟨[(1,alv FS),(8,rlv X),(10,oV 10 3 ((W i).length)),(11,iV i)],[(10,aV 3 (enc rc (W i)))]⟩)
  (λi=>i<=M) (λi=>M-i) 0 (yU _)
  (.trans (wkZ (ps':=⟨[(1,alv FS),(8,rlv X),(10,.nil),(11,iV (((0:Nat):Int)))],[]⟩)) (.trans (.adoptT (ps:=⟨[(1,alv FS),(8,rlv X),(10,.nil),(11,iV (((0:Nat):Int)))],[]⟩) 10 3 10 rfl rfl) (wkY (by cbv;repeat' first|exact trivial|exact lR|exact zB om|exact zZ rfl (by first|rfl|(rw[w0];done)|(simp[zL,zA];done)|(rw[w0];simp[zL,zA];done))|exact zH (by first|rfl|(rw[w0];done)|(rw[w0];rfl)|(rw[<-xZ];rfl)|(rw[w0,<-xZ];rfl))|apply And.intro)))) ?_
 intro i hi';have hwi:=wl i hi';cbv;refine zE (λh=>?_) (λh=>?_)
 ·(have hlt:i<M:=by rw[zA,hFl] at h;exact om);obtain⟨p,y,g1,c1,g2⟩:=ce i hlt
  clear ce wl;cbv;refine yB g1 qS j6 ?_;cbv;refine cA c1 ?_;cbv;refine wU ZL rfl rfl rfl (by simp[zA,zL]) rfl ⟨by simp[zL,xE]⟩ (z5 (by simp[zL,zA] <;> omega) (by simp[zL,zA] at *;exact om)) rfl ?_;cbv;exact⟨zC om om,i+1,(by show i+1<=M;omega),(by show M-(i+1)<M-i;omega),wkY (by cbv;repeat' first|exact trivial|exact lR|exact zB om|exact zZ rfl (by first|rfl|(rw[g2];done)|(simp[zL,zA];done)|(rw[g2];simp[zL,zA];done))|exact zH (by first|rfl|(rw[g2];done)|(rw[g2];rfl)|(rw[<-xZ];rfl)|(rw[g2,<-xZ];rfl))|apply And.intro)⟩
 have hin:i=M:=by rw[zA,hFl] at h;exact om
 rw[hin];clear hin hwi hi' h ce wl;generalize W M=X' at *;have hT:=p5 rc X';have hfr:=Q3 rc X';cbv;refine cZ _ (.trans (.le (ps':=⟨[(6,oV 10 3 X'.length),(7,iV 0)],[(10,aV 3 (enc rc X'))]⟩) ?_ ?_ rfl) (.frz 10 rfl rfl ?_ ?_)) rfl ?_;{cbv;exact okA};{cbv;exact⟨zH rfl,trivial⟩}
 ·cbv
  repeat' first|exact trivial|exact⟨hfr⟩|apply And.intro
 ·cbv
  repeat' first|exact trivial|apply And.intro
 cbv;exact⟨zS hT,lR,trivial⟩
def Rl (x:FGrp)(l:List Rat)(hx:x.small)(hv:x.g.valid=true)(hz:x.g.sz (2^32))(hw:∀ (i:Nat) (f:F),x.us[i]?=some f->f.wf ((x.n+i:Nat):Int))(hl:l.length=x.n){m:Nat}(hm:1<=m)(hm2:m<=2^10)(hf:∀ q,q∈l->Fits m q):zD 29 [gv x.g,rlv (l.map zG)] (.tup [rlv ((x.us.map λf=>f.at (xr (vW x.us l))).map zG),iV 0]):=by refine sF Tryz.f29 ?_;have cf:=Dx x x.us l hx hv hz hw hl hm hm2 hf (by have:=hx.us;omega) (λf h=>by obtain⟨i,hi⟩:=rK h;have hlt:=(xP.1 hi).1;exact⟨hx.uf f h,(hw i f hi).mono oM⟩);have e:gv x.g=.agg [iV x.n,alv (x.us.map fA),alv (x.os.map fA)]:=rfl;rw[e] at cf ⊢;generalize (x.us.map λf=>f.at (xr (vW x.us l))).map zG=Y at *;generalize x.us.map fA=us at *;generalize x.os.map fA=os at *;generalize l.map zG=LL at *;generalize (x.n:Int)=n at *;cbv;refine cA cf ?_;cbv;exact rA
def Ri (g:Reg)(hg:g.sz (2^31)):zD 154 [rgv g] (bV (g.valid (g.lo.length:Int))):=by refine sF Tryz.f154 ?_;have cv:=PN g (g.lo.length:Int) hg;generalize g.valid (g.lo.length:Int)=b at *;obtain⟨lo,hi,rows⟩:=g;cbv;refine yP rfl (by exact⟨okA,zB (by rw[zA]),trivial⟩) cv rfl ?_;cbv;exact rA
def VM (raw:List UInt8) (i:Nat):Nat:=if i<raw.length then ((raw.getD i 0)%9).toNat else 0
def nN (raw:List UInt8):Nat->List (Rat×Rat)->List Rat
 |_,[]=>[]| i,b::r=>(b.1+rB (VM raw i:Int) 8*(b.2-b.1))::nN raw (i+1) r
def WB (raw:List UInt8):∀ (i:Nat) (l:List (Rat×Rat)),(nN raw i l).length=l.length
 |_,[]=>rfl| i,b::r=>by unfold nN;rw[bK,bK,WB raw _ r]
def Jq (raw:List UInt8):∀ {l:List (Rat×Rat)} {i j:Nat} {b:Rat×Rat},l[j]?=some b->(nN raw i l)[j]?=some (b.1+rB (VM raw (i+j):Int) 8*(b.2-b.1))
 |[],_,_,_,h=>by simp at h| a::r,i,0,b,h=>by simp only[mH,pE] at h;subst h;unfold nN;simp| a::r,i,j+1,b,h=>by simp only[p9] at h;unfold nN;rw[p9,Jq raw h,show i+1+j=i+(j+1) by omega]
def OP (w:UInt8):nx .i64 (irem (w.toNat:Int) 9)=(((w%9).toNat:Nat):Int):=by have h:=w.toNat_lt;unfold irem nx;have e:Int.tmod (w.toNat:Int) 9=((w.toNat%9:Nat):Int):=(Int.ofNat_tmod _ _).symm;rw[e,UInt8.toNat_mod];show IntKind.wrap .i64 ((w.toNat%9:Nat):Int)=((w.toNat%9:Nat):Int);have h8:w.toNat%9<9:=vZ _ (by decide);generalize w.toNat%9=k at *;simp[IntKind.wrap,IntKind.signed,IntKind.bits];omega
def FD (raw:List UInt8)(i:Nat):VM raw i<9:=by unfold VM;split;{rw[UInt8.toNat_mod];exact vZ _ (by decide)};{decide}
def WA {k:Nat}(h:k<9):Fits 1 (rB (k:Int) 8):=by
 have:∀ k:Fin 9,(rB (k.val:Int) 8).num.natAbs<B/\(rB (k.val:Int) 8).den<B:=by decide +kernel
 obtain⟨h1,h2⟩:=this ⟨k,h⟩;exact⟨by simpa using h1,by simpa using h2⟩
def UF {raw:List UInt8}:∀ {l:List (Rat×Rat)} {i:Nat},(∀ b,b∈l->Fits 3 b.1/\Fits 3 b.2)->∀ q,q∈nN raw i l->Fits 20 q
 |[],_,_,q,hq=>absurd hq (by simp[nN])| b::r,i,h,q,hq=>by unfold nN at hq;rcases yI.1 hq with rfl|hq;{obtain⟨h1,h2⟩:=h b xV;exact (uK h1 (yY (WA (FD raw i)) (vC h2 h1))).mono oM};{exact UF (λc hc=>h c (xQ _ hc)) q hq}
end Go.Proofs.YtaeaffgjdcigoaaGreat
