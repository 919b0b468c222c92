/- A part of the proof: AlB, AlC, SpX, EvA, LxA, EvB, EvC, EvD, EvE, LxP, RsA. -/
import Derived.Test.YtboocdbmnfjomaaGreatV31
import Derived.Test.YtboocdbmnfjomaaGreatV30
import Derived.Test.YtboocdbmnfjomaaGreatV22
import Derived.Test.YtboocdbmnfjomaaGreatV28
import Derived.Test.YtboocdbmnfjomaaGreatV26
import Derived.Test.YtboocdbmnfjomaaGreatV27
import Derived.Test.YtboocdbmnfjomaaGreatV23
set_option linter.all false
namespace Go.Proofs.YtboocdbmnfjomaaGreat
open Go
set_option maxRecDepth 100000
set_option maxHeartbeats 4000000
abbrev x9 (l:List Row):PV:=.sl (λ_=>enc rwc l)
def k7 (a:Row):yX qT (rwc a)=true:=rfl
def u6 (a:Row):(rwc a).length=4:=rfl
def uY:ty 47=.sli 4 32 [iV 0,iV 0,iV 0,iV 0]:=by cbv
structure AllSeq (s:Scp) (A B C D:Nat->List Row):Prop where
 a0:A 0=[]
 a1:∀ i:Nat,A (i+1)=A i++[⟨1,i,0,0⟩,⟨2,i,0,0⟩]
 b0:B 0=A s.q.g.n.toNat
 b1:∀ i:Nat,B (i+1)=B i++[⟨3,i,0,0⟩]
 c0:C 0=B s.q.r.rows.length
 c1:∀ i:Nat,C (i+1)=C i++(if (s.fm ⟨4,(i:Int),0,0⟩).isSome=true then [⟨4,i,0,0⟩] else [])
 d0:D 0=C s.path.length
 d1:∀ j:Nat,D (j+1)=D j++s.rowsU j
 e:s.all=D s.q.g.us.length
 la:∀ i,(A i).length<=2*i
 lb:∀ i,(B i).length<=2*s.q.g.n.toNat+i
 lc:∀ i,(C i).length<=2*s.q.g.n.toNat+s.q.r.rows.length+i
 ld:∀ i,(D i).length<=2*s.q.g.n.toNat+s.q.r.rows.length+s.path.length+12*i
def VD (s:Scp)(j:Int):(s.rowsU j).length<=12:=by
 unfold Scp.rowsU Scp.rowsOn Scp.rowsOff Scp.rowsOpen;simp only[alT53]
 repeat' split
 all_goals simp
def QD {s:Scp}(hv:s.q.valid=true):∃ A B C D,AllSeq s A B C D:=by
 refine⟨λi=>(List.range i).flatMap λi:Nat=>[(⟨1,(i:Int),0,0⟩:Row),⟨2,(i:Int),0,0⟩],?_⟩;generalize hA:(λi=>(List.range i).flatMap λi:Nat=>[(⟨1,(i:Int),0,0⟩:Row),⟨2,(i:Int),0,0⟩])=A;refine⟨λk=>A s.q.g.n.toNat++(List.range k).map λi:Nat=>(⟨3,(i:Int),0,0⟩:Row),?_⟩;generalize hB:(λk=>A s.q.g.n.toNat++(List.range k).map λi:Nat=>(⟨3,(i:Int),0,0⟩:Row))=B;refine⟨λk=>B s.q.r.rows.length++((List.range k).filter λi:Nat=>(s.fm ⟨4,(i:Int),0,0⟩).isSome).map λi:Nat=>(⟨4,(i:Int),0,0⟩:Row),?_⟩;generalize hC:(λk=>B s.q.r.rows.length++((List.range k).filter λi:Nat=>(s.fm ⟨4,(i:Int),0,0⟩).isSome).map λi:Nat=>(⟨4,(i:Int),0,0⟩:Row))=C;refine⟨λk=>C s.path.length++(List.range k).flatMap λj:Nat=>s.rowsU (j:Int),?_⟩;have la:∀ i,(A i).length<=2*i:=λi=>by
  rw[<-hA];induction i with
  |zero=>simp| succ i ih =>
   show ((List.range (i+1)).flatMap _).length<=_;rw[nD,ZY,alT53];have:((List.range i).flatMap λi:Nat=>[(⟨1,(i:Int),0,0⟩:Row),⟨2,(i:Int),0,0⟩]).length<=2*i:=ih;simp only[ZX,List.flatMap_nil,alT53,fH,dU];omega
 have lb:∀ i,(B i).length<=2*s.q.g.n.toNat+i:=λi=>by rw[<-hB];have:=la s.q.g.n.toNat;simp;omega
 have lc:∀ i,(C i).length<=2*s.q.g.n.toNat+s.q.r.rows.length+i:=λi=>by rw[<-hC];have h1:=lb s.q.r.rows.length;have h2:=List.length_filter_le (λi:Nat=>(s.fm ⟨4,(i:Int),0,0⟩).isSome) (List.range i);rw[ZW] at h2;simp only[alT53,yH];omega
 refine⟨by rw[<-hA];rfl,λi=>by rw[<-hA];simp[nD,ZY],by rw[<-hB];simp,λi=>by rw[<-hB];simp[nD],by rw[<-hC];simp,λi=>by
   rw[<-hC];show B _++_=_;rw[nD,List.filter_append,qS,<-Zh];congr 1;by_cases h:(s.fm ⟨4,(i:Int),0,0⟩).isSome=true;{rw[if_pos h];simp[h]}
   ·rw[if_neg h];simp[h],by simp,λj=>by simp[nD,ZY],?_,la,lb,lc,λi=>?_⟩
 {unfold Scp.all;rw[if_neg (by rw[hv];decide),<-hC,<-hB,<-hA]}
 ·have h1:=lc s.path.length;show (C _++_).length<=_;rw[alT53];have:((List.range i).flatMap λj:Nat=>s.rowsU (j:Int)).length<=12*i:=by
   induction i with
   |zero=>simp| succ i ih =>
    rw[nD,ZY,alT53];have:=VD s (i:Int);simp only[ZX,List.flatMap_nil,vM];omega
  omega
def Sb (s:Scp)(hs:s.sz (2^20))(hn:s.q.g.n<=1000000)(hr:s.q.r.rows.length<=1000000)(hp:s.path.length<=1000000)(hu:s.q.g.us.length<=1000000):zH 38 [sv s] (x9 s.all):=by
 refine sF Tryz.f38 ?_;have cv:=DY s.q (hs.q.mono (by decide));have cf:=λi:Nat=>Xn s ⟨4,i,0,0⟩ hs;have cb:=λj:Nat=>Xo s j hs.lems;have cph:=λj:Nat=>PD s j hs;have cd1:=λj:Nat=>pR s 1 j (hs.path.mono (by decide));have cd2:=λj:Nat=>pR s 2 j (hs.path.mono (by decide));cases hv:s.q.valid with
 |false =>
  (have hall:s.all=[]:=by unfold Scp.all;rw[if_pos hv]);rw[hall]
  rw[hv] at cv;obtain⟨⟨⟨gn,us,os⟩,⟨lo,hi,rows⟩,⟨ts,c1,c2,c3⟩⟩,path,L⟩:=s;cbv;refine cA cv ?_;cbv;refine m0 rfl ?_;cbv;exact rA
 |true =>
  (obtain⟨A,B,C,D,Q⟩:=QD hv;rw[hv] at cv;have fa1:=Q.a1;have fb1:=Q.b1;have fc1:=Q.c1;have fd1:=Q.d1;have la:=Q.la;have lb:=Q.lb;have lc':=Q.lc;have ld:=Q.ld;have hN:s.q.g.n<=0\/s.q.g.n=(s.q.g.n.toNat:Int):=by omega);rw[Q.e]
  (have a0:=Q.a0;have b0:=Q.b0;have c0:=Q.c0;have d0:=Q.d0;have un:∀ j:Nat,s.rowsU j=(if s.onU j=true then s.rowsOn j else [])++(if s.offU j=true then s.rowsOff j else [])++(if s.onU j=true\/s.offU j=true then [] else s.rowsOpen j):=λj=>rfl;have ro1:∀ j:Nat,s.dcd 1 j=true->s.rowsOn j=[⟨6,j,0,0⟩,⟨7,j,0,0⟩,⟨8,j,0,0⟩]:=λj h=>by unfold Scp.rowsOn;rw[if_pos h]);have ro2:∀ j:Nat,s.dcd 1 j=false->s.rowsOn j=[⟨6,j,0,0⟩,⟨7,j,((s.best j).1:Int),0⟩,⟨8,j,((s.best j).1:Int),0⟩]:=λj h=>by unfold Scp.rowsOn;rw[if_neg (by rw[h];decide)]
  (have rf1:∀ j:Nat,s.dcd 2 j=true->s.rowsOff j=[⟨5,j,0,0⟩,⟨9,j,0,0⟩,⟨10,j,0,0⟩]:=λj h=>by unfold Scp.rowsOff;rw[if_pos h]);have rf2:∀ j:Nat,s.dcd 2 j=false->s.rowsOff j=[⟨5,j,0,0⟩,⟨9,j,0,((s.best j).2:Int)⟩,⟨10,j,0,((s.best j).2:Int)⟩]:=λj h=>by unfold Scp.rowsOff;rw[if_neg (by rw[h];decide)]
  (have rop:∀ j:Nat,s.rowsOpen j=[⟨5,j,0,0⟩,⟨6,j,0,0⟩]++(if 0<(s.best j).1 then [⟨11,j,((s.best j).1:Int),0⟩] else [])++(if 0<(s.best j).2 then [⟨12,j,0,((s.best j).2:Int)⟩] else [])++(if 0<(s.best j).1/\0<(s.best j).2 then [⟨13,j,((s.best j).1:Int),((s.best j).2:Int)⟩] else []):=λj=>rfl;have bl:∀ j:Nat,(s.best j).1<2^40/\(s.best j).2<2^40:=λj=>by have:=hs.lems.len;constructor;{rcases tQ (s.best j).1 with h|h;{omega};{obtain⟨m,hm,_⟩:=aV (s:=s) (unit:=j) (.inl rfl) oM;have:=(w8.1 hm).1;omega}};{rcases tQ (s.best j).2 with h|h;{omega};{obtain⟨m,hm,_⟩:=aV (s:=s) (unit:=j) (.inr rfl) oM;have:=(w8.1 hm).1;omega}});have fms:∀ i:Nat,∃ (V:Go.Proofs.YtboocdbmnfjomaaGreat.A) (W:Bool),(s.fm ⟨4,(i:Int),0,0⟩).isSome=W/\zH 39 [sv s,rwv ⟨4,i,0,0⟩] (.tup [av V,zM W]):=λi=>⟨_,_,rfl,cf i⟩;have bsts:∀ j:Nat,∃ (x1 x2:Nat) (on off d1 d2:Bool) (ron rof:List Row),zH 87 [sv s,iV j] (.tup [iV x1,iV x2])/\zH 88 [sv s,iV j] (.tup [zM on,zM off]) /\
    zH 76 [sv s,iV 1,iV j] (zM d1)/\zH 76 [sv s,iV 2,iV j] (zM d2)/\x1<2^40/\x2<2^40 /\
    D (j+1)=D j++((if on=true then ron else [])++(if off=true then rof else [])++(if on=true\/off=true then [] else [⟨5,j,0,0⟩,⟨6,j,0,0⟩]++(if 0<x1 then [⟨11,j,(x1:Int),0⟩] else [])++(if 0<x2 then [⟨12,j,0,(x2:Int)⟩] else [])++(if 0<x1/\0<x2 then [⟨13,j,(x1:Int),(x2:Int)⟩] else []))) /\
    (d1=true->ron=[⟨6,j,0,0⟩,⟨7,j,0,0⟩,⟨8,j,0,0⟩])/\(d1=false->ron=[⟨6,j,0,0⟩,⟨7,j,(x1:Int),0⟩,⟨8,j,(x1:Int),0⟩])/\(d2=true->rof=[⟨5,j,0,0⟩,⟨9,j,0,0⟩,⟨10,j,0,0⟩])/\(d2=false->rof=[⟨5,j,0,0⟩,⟨9,j,0,(x2:Int)⟩,⟨10,j,0,(x2:Int)⟩]):=λj =>
   ⟨_,_,_,_,_,_,_,_,cb j,cph j,cd1 j,cd2 j,(bl j).1,(bl j).2,by rw[fd1 j,un j,rop j],ro1 j,ro2 j,rf1 j,rf2 j⟩
  clear ro1 ro2 rf1 rf2 rop bl un cb cph cd1 cd2 fd1 cf Q hs hv;generalize hNn:s.q.g.n.toNat=N at *;have fms':∀ i:Nat,∃ (V:Go.Proofs.YtboocdbmnfjomaaGreat.A) (W:Bool),zH 39 [sv s,rwv ⟨4,i,0,0⟩] (.tup [av V,zM W])/\C (i+1)=C i++(if W=true then [⟨4,i,0,0⟩] else []):=λi=>by obtain⟨V,W,h1,h2⟩:=fms i;exact⟨V,W,h2,by rw[<-h1];exact fc1 i⟩
  (clear fms fc1;obtain⟨⟨⟨gn,us,os⟩,⟨lo,hi,rows⟩,⟨ts,c1,c2,c3⟩⟩,path,L⟩:=s;dsimp only at hn hr hp hu hN hNn lb lc' ld b0 c0 d0;have hN1:N<=1000000:=by omega);have lA:∀ i,i<=N->(A i).length<=100000000:=λi h=>by have:=la i;omega
  (have lB:∀ i,i<=rows.length->(B i).length<=100000000:=λi h=>by have:=lb i;omega);have lC:∀ i,i<=path.length->(C i).length<=100000000:=λi h=>by have:=lc' i;omega
  (have lD:∀ i,i<=us.length->(D i).length<=100000000:=λi h=>by have:=ld i;omega);clear la lb lc' ld
  cbv;refine cA cv ?_;cbv;refine tD rfl ?_;cbv;refine zY (σ:=Nat) (λi=>⟨[(1,.ptr 1 0),(3,zT 3 4 ((A i).length)),(4,iV i)],[(1,.box [iV gn,alv us,alv os,rlv lo,rlv hi,alv rows,tsv ts,zM c1,nat c2,nat c3,dlv path,llv L]),(3,zW 4 (enc rwc (A i)))]⟩)
   (λi=>i<=N) (λi=>N-i) 0 (xO _)
   (.trans (wkZ (ps':=⟨[(1,.ptr 1 0),(3,.nil),(4,iV (((0:Nat):Int)))],[(1,.box [iV gn,alv us,alv os,rlv lo,rlv hi,alv rows,tsv ts,zM c1,nat c2,nat c3,dlv path,llv L])]⟩)) (.trans (.adoptT (ps:=⟨[(1,.ptr 1 0),(3,.nil),(4,iV (((0:Nat):Int)))],[(1,.box [iV gn,alv us,alv os,rlv lo,rlv hi,alv rows,tsv ts,zM c1,nat c2,nat c3,dlv path,llv L])]⟩) 3 4 3 rfl rfl) (wkY (by cbv;repeat' first|exact trivial|exact lR|exact zF om|exact zR rfl (by first|rfl|(rw[a0];done)|(simp[zI,zB];done)|(rw[a0];simp[zI,zB];done))|exact zC (by first|rfl|(rw[a0];done)|(rw[a0];rfl)|(rw[<-z3];rfl)|(rw[a0,<-z3];rfl))|apply And.intro)))) ?_
  intro i hi';have l1:=lA i hi';cbv;refine zG (λh=>?_) (λh=>?_)
  ·(have hlt:i<N:=by exact om);have f:=fa1 i
   clear fms' bsts lA lB lC lD fa1 fb1;generalize A i=X at *;cbv;refine xE uY rfl rfl rfl (by simp[zB,zI]) rfl ⟨by simp[zI,y7]⟩ (zV (by simp[zI,zB] <;> omega) (by simp[zI,zB] at *;exact om)) rfl ?_;cbv;exact⟨zE om om,i+1,(by show i+1<=N;omega),(by show N-(i+1)<N-i;omega),wkY (by cbv;repeat' first|exact trivial|exact lR|exact zF om|exact zR rfl (by first|rfl|(rw[f];done)|(simp[zI,zB];done)|(rw[f];simp[zI,zB];done))|exact zC (by first|rfl|(rw[f];done)|(rw[f];rfl)|(rw[<-z3];rfl)|(rw[f,<-z3];rfl))|apply And.intro)⟩
  (have hN':i=N:=by exact om);subst hN'
  clear l1 lA hi' h;cbv;refine zY (σ:=Nat) (λi=>⟨[(1,.ptr 1 0),(3,zT 3 4 ((B i).length)),(5,iV i)],[(1,.box [iV gn,alv us,alv os,rlv lo,rlv hi,alv rows,tsv ts,zM c1,nat c2,nat c3,dlv path,llv L]),(3,zW 4 (enc rwc (B i)))]⟩)
   (λi=>i<=rows.length) (λi=>rows.length-i) 0 (xO _) (wkY (by cbv;repeat' first|exact trivial|exact lR|exact zF om|exact zR rfl (by first|rfl|(rw[b0];done)|(simp[zI,zB];done)|(rw[b0];simp[zI,zB];done))|exact zC (by first|rfl|(rw[b0];done)|(rw[b0];rfl)|(rw[<-z3];rfl)|(rw[b0,<-z3];rfl))|apply And.intro)) ?_
  intro i hi';have l1:=lB i hi';cbv;refine zG (λh=>?_) (λh=>?_)
  ·(have hlt:i<rows.length:=by rw[zB] at h;exact om);have f:=fb1 i
   clear fms' bsts lB lC lD fa1 fb1;generalize B i=X at *;cbv;refine xE uY rfl rfl rfl (by simp[zB,zI]) rfl ⟨by simp[zI,y7]⟩ (zV (by simp[zI,zB] <;> omega) (by simp[zI,zB] at *;exact om)) rfl ?_;cbv;exact⟨zE om om,i+1,(by show i+1<=rows.length;omega),(by show rows.length-(i+1)<rows.length-i;omega),wkY (by cbv;repeat' first|exact trivial|exact lR|exact zF om|exact zR rfl (by first|rfl|(rw[f];done)|(simp[zI,zB];done)|(rw[f];simp[zI,zB];done))|exact zC (by first|rfl|(rw[f];done)|(rw[f];rfl)|(rw[<-z3];rfl)|(rw[f,<-z3];rfl))|apply And.intro)⟩
  (have hN':i=rows.length:=by rw[zB] at h;exact om);rw[hN'] at l1 ⊢
  clear l1 lB hi' h hN';cbv;refine zY (σ:=Nat) (λi=>⟨[(1,.ptr 1 0),(3,zT 3 4 ((C i).length)),(6,iV i)],[(1,.box [iV gn,alv us,alv os,rlv lo,rlv hi,alv rows,tsv ts,zM c1,nat c2,nat c3,dlv path,llv L]),(3,zW 4 (enc rwc (C i)))]⟩)
   (λi=>i<=path.length) (λi=>path.length-i) 0 (xO _) (wkY (by cbv;repeat' first|exact trivial|exact lR|exact zF om|exact zR rfl (by first|rfl|(rw[c0];done)|(simp[zI,zB];done)|(rw[c0];simp[zI,zB];done))|exact zC (by first|rfl|(rw[c0];done)|(rw[c0];rfl)|(rw[<-z3];rfl)|(rw[c0,<-z3];rfl))|apply And.intro)) ?_
  intro i hi';have l1:=lC i hi';cbv;refine zG (λh=>?_) (λh=>?_)
  ·(have hlt:i<path.length:=by rw[zB] at h;exact om);obtain⟨V,W,cF,f⟩:=fms' i
   clear fms' bsts lC lD fa1 fb1;generalize C i=X at *;cbv;refine cA cF ?_;cbv;refine zZ (λe=>?_) (λe=>?_);{rw[if_pos e] at f;cbv;refine xE uY rfl rfl rfl (by simp[zB,zI]) rfl ⟨by simp[zI,y7]⟩ (zV (by simp[zI,zB] <;> omega) (by simp[zI,zB] at *;exact om)) rfl ?_;cbv;exact⟨zE om om,i+1,(by show i+1<=path.length;omega),(by show path.length-(i+1)<path.length-i;omega),wkY (by cbv;repeat' first|exact trivial|exact lR|exact zF om|exact zR rfl (by first|rfl|(rw[f];done)|(simp[zI,zB];done)|(rw[f];simp[zI,zB];done))|exact zC (by first|rfl|(rw[f];done)|(rw[f];rfl)|(rw[<-z3];rfl)|(rw[f,<-z3];rfl))|apply And.intro)⟩};{rw[if_neg (by rw[e];decide),vM] at f;cbv;exact⟨zE om om,i+1,(by show i+1<=path.length;omega),(by show path.length-(i+1)<path.length-i;omega),wkY (by cbv;repeat' first|exact trivial|exact lR|exact zF om|exact zR rfl (by first|rfl|(rw[f];done)|(simp[zI,zB];done)|(rw[f];simp[zI,zB];done))|exact zC (by first|rfl|(rw[f];done)|(rw[f];rfl)|(rw[<-z3];rfl)|(rw[f,<-z3];rfl))|apply And.intro)⟩}
  (have hN':i=path.length:=by rw[zB] at h;exact om);rw[hN'] at l1 ⊢
  clear l1 lC hi' h hN' fms';cbv;refine zY (σ:=Nat) (λj=>⟨[(1,.ptr 1 0),(3,zT 3 4 ((D j).length)),(10,iV j)],[(1,.box [iV gn,alv us,alv os,rlv lo,rlv hi,alv rows,tsv ts,zM c1,nat c2,nat c3,dlv path,llv L]),(3,zW 4 (enc rwc (D j)))]⟩)
   (λj=>j<=us.length) (λj=>us.length-j) 0 (xO _) (wkY (by cbv;repeat' first|exact trivial|exact lR|exact zF om|exact zR rfl (by first|rfl|(rw[d0];done)|(simp[zI,zB];done)|(rw[d0];simp[zI,zB];done))|exact zC (by first|rfl|(rw[d0];done)|(rw[d0];rfl)|(rw[<-z3];rfl)|(rw[d0,<-z3];rfl))|apply And.intro)) ?_
  intro j hj;have l1:=lD j hj;cbv;refine zG (λh=>?_) (λh=>?_)
  ·(have hlt:j<us.length:=by rw[zB] at h;exact om);obtain⟨b1,b2,on,off,d1,d2,ron,rof,cB,cP,cD1,cD2,z1,z2,f,o1,o2,o3,o4⟩:=bsts j
   (clear bsts lD fa1 fb1;have fin:∀ X',D j++X'=D (j+1)->(D (j+1)).length=(D j++X').length/\enc rwc (D (j+1))=enc rwc (D j++X'):=λX' h=>by rw[h];exact⟨rfl,rfl⟩);have hlen3:ron.length<=3:=by cases hd:d1 with
    |true=>rw[o1 hd];simp| false=>rw[o2 hd];simp
   have hlen4:rof.length<=3:=by cases hd:d2 with
    |true=>rw[o3 hd];simp| false=>rw[o4 hd];simp
   generalize hX:D j=X at *;cbv;refine cA cB ?_;cbv;refine cA cP ?_;cbv;refine cS (σ:=List Row) (λY=>⟨[(1,.ptr 1 0),(3,zT 3 4 ((Y).length)),(10,iV j),(11,iV b1),(12,iV b2),(13,zM on),(14,zM off)],[(1,.box [iV gn,alv us,alv os,rlv lo,rlv hi,alv rows,tsv ts,zM c1,nat c2,nat c3,dlv path,llv L]),(3,zW 4 (enc rwc (Y)))]⟩) (λY=>Y=X++(if on=true then ron else [])) (λe=>?_) (λe=>?_) (λY hY=>?_);{cbv;refine cA cD1 ?_;cbv;refine zZ (λe'=>?_) (λe'=>?_);{cbv;refine xE uY rfl rfl rfl (by simp[zB,zI]) rfl ⟨by simp[zI,y7]⟩ (zV (by simp[zI,zB] <;> omega) (by simp[zI,zB] at *;exact om)) rfl ?_;cbv;refine⟨X++[⟨6,j,0,0⟩,⟨7,j,0,0⟩,⟨8,j,0,0⟩],by rw[if_pos e,o1 e'],wkY (by cbv;repeat' first|exact trivial|exact lR|exact zF om|exact zR rfl (by first|rfl|(rw[e];done)|(simp[zI,zB];done)|(rw[e];simp[zI,zB];done))|exact zC (by first|rfl|(rw[e];done)|(rw[e];rfl)|(rw[<-z3];rfl)|(rw[e,<-z3];rfl))|apply And.intro)⟩};{cbv;refine xE uY rfl rfl rfl (by simp[zB,zI]) rfl ⟨by simp[zI,y7]⟩ (zV (by simp[zI,zB] <;> omega) (by simp[zI,zB] at *;exact om)) rfl ?_;cbv;refine⟨X++[⟨6,j,0,0⟩,⟨7,j,(b1:Int),0⟩,⟨8,j,(b1:Int),0⟩],by rw[if_pos e,o2 e'],wkY (by cbv;repeat' first|exact trivial|exact lR|exact zF om|exact zR rfl (by first|rfl|(rw[e];done)|(simp[zI,zB];done)|(rw[e];simp[zI,zB];done))|exact zC (by first|rfl|(rw[e];done)|(rw[e];rfl)|(rw[<-z3];rfl)|(rw[e,<-z3];rfl))|apply And.intro)⟩}};{cbv;exact⟨X,by rw[if_neg (by rw[e];decide),vM],wkY (by cbv;repeat' first|exact trivial|exact lR|exact zF om|exact zR rfl (by first|rfl|(rw[e];done)|(simp[zI,zB];done)|(rw[e];simp[zI,zB];done))|exact zC (by first|rfl|(rw[e];done)|(rw[e];rfl)|(rw[<-z3];rfl)|(rw[e,<-z3];rfl))|apply And.intro)⟩}
   (have ly:Y.length<=100000003:=by rw[hY,alT53];split <;> (try simp only[dU]) <;> omega);cbv
   refine cS (σ:=List Row) (λY'=>⟨[(1,.ptr 1 0),(3,zT 3 4 ((Y').length)),(10,iV j),(11,iV b1),(12,iV b2),(13,zM on),(14,zM off)],[(1,.box [iV gn,alv us,alv os,rlv lo,rlv hi,alv rows,tsv ts,zM c1,nat c2,nat c3,dlv path,llv L]),(3,zW 4 (enc rwc (Y')))]⟩) (λY'=>Y'=Y++(if off=true then rof else [])) (λe=>?_) (λe=>?_) (λY' hY'=>?_);{cbv;refine cA cD2 ?_;cbv;refine zZ (λe'=>?_) (λe'=>?_);{cbv;refine xE uY rfl rfl rfl (by simp[zB,zI]) rfl ⟨by simp[zI,y7]⟩ (zV (by simp[zI,zB] <;> omega) (by simp[zI,zB] at *;exact om)) rfl ?_;cbv;refine⟨Y++[⟨5,j,0,0⟩,⟨9,j,0,0⟩,⟨10,j,0,0⟩],by rw[if_pos e,o3 e'],wkY (by cbv;repeat' first|exact trivial|exact lR|exact zF om|exact zR rfl (by first|rfl|(rw[e];done)|(simp[zI,zB];done)|(rw[e];simp[zI,zB];done))|exact zC (by first|rfl|(rw[e];done)|(rw[e];rfl)|(rw[<-z3];rfl)|(rw[e,<-z3];rfl))|apply And.intro)⟩};{cbv;refine xE uY rfl rfl rfl (by simp[zB,zI]) rfl ⟨by simp[zI,y7]⟩ (zV (by simp[zI,zB] <;> omega) (by simp[zI,zB] at *;exact om)) rfl ?_;cbv;refine⟨Y++[⟨5,j,0,0⟩,⟨9,j,0,(b2:Int)⟩,⟨10,j,0,(b2:Int)⟩],by rw[if_pos e,o4 e'],wkY (by cbv;repeat' first|exact trivial|exact lR|exact zF om|exact zR rfl (by first|rfl|(rw[e];done)|(simp[zI,zB];done)|(rw[e];simp[zI,zB];done))|exact zC (by first|rfl|(rw[e];done)|(rw[e];rfl)|(rw[<-z3];rfl)|(rw[e,<-z3];rfl))|apply And.intro)⟩}};{cbv;exact⟨Y,by rw[if_neg (by rw[e];decide),vM],wkY (by cbv;repeat' first|exact trivial|exact lR|exact zF om|exact zR rfl (by first|rfl|(rw[e];done)|(simp[zI,zB];done)|(rw[e];simp[zI,zB];done))|exact zC (by first|rfl|(rw[e];done)|(rw[e];rfl)|(rw[<-z3];rfl)|(rw[e,<-z3];rfl))|apply And.intro)⟩}
   (have ly':Y'.length<=100000006:=by rw[hY',alT53];split <;> (try simp only[dU]) <;> omega);have f':D (j+1)=Y'++(if on=true\/off=true then [] else [⟨5,j,0,0⟩,⟨6,j,0,0⟩]++(if 0<b1 then [⟨11,j,(b1:Int),0⟩] else [])++(if 0<b2 then [⟨12,j,0,(b2:Int)⟩] else [])++(if 0<b1/\0<b2 then [⟨13,j,(b1:Int),(b2:Int)⟩] else [])):=by rw[f,hY',hY];simp only[Zh]
   clear f hY hY' o1 o2 o3 o4 cB cP cD1 cD2 fin hX l1 ly hlen3 hlen4;cbv;refine yI (λe1=>?_) (λe1=>?_);{rw[if_pos (.inl e1),vM] at f';cbv;exact⟨zE om om,j+1,(by show j+1<=us.length;omega),(by show us.length-(j+1)<us.length-j;omega),wkY (by cbv;repeat' first|exact trivial|exact lR|exact zF om|exact zR rfl (by first|rfl|(rw[f'];done)|(simp[zI,zB];done)|(rw[f'];simp[zI,zB];done))|exact zC (by first|rfl|(rw[f'];done)|(rw[f'];rfl)|(rw[<-z3];rfl)|(rw[f',<-z3];rfl))|apply And.intro)⟩};cbv;refine zZ (λe2=>?_) (λe2=>?_);{rw[if_pos (.inr e2),vM] at f';cbv;exact⟨zE om om,j+1,(by show j+1<=us.length;omega),(by show us.length-(j+1)<us.length-j;omega),wkY (by cbv;repeat' first|exact trivial|exact lR|exact zF om|exact zR rfl (by first|rfl|(rw[f'];done)|(simp[zI,zB];done)|(rw[f'];simp[zI,zB];done))|exact zC (by first|rfl|(rw[f'];done)|(rw[f'];rfl)|(rw[<-z3];rfl)|(rw[f',<-z3];rfl))|apply And.intro)⟩};rw[if_neg (by rw[e1,e2];decide)] at f';cbv;refine xE uY rfl rfl rfl (by simp[zB,zI]) rfl ⟨by simp[zI,y7]⟩ (zV (by simp[zI,zB] <;> omega) (by simp[zI,zB] at *;exact om)) rfl ?_;cbv;refine zG (λe3=>?_) (λe3=>?_)
   ·(have p1:0<b1:=by exact om);rw[if_pos p1] at f'
    cbv;refine xE uY rfl rfl rfl (by simp[zB,zI]) rfl ⟨by simp[zI,y7]⟩ (zV (by simp[zI,zB] <;> omega) (by simp[zI,zB] at *;exact om)) rfl ?_;cbv;refine zG (λe4=>?_) (λe4=>?_)
    ·(have p2:0<b2:=by exact om);rw[if_pos p2] at f'
     rw[if_pos ⟨p1,p2⟩] at f';cbv;refine xE uY rfl rfl rfl (by simp[zB,zI]) rfl ⟨by simp[zI,y7]⟩ (zV (by simp[zI,zB] <;> omega) (by simp[zI,zB] at *;exact om)) rfl ?_;cbv;refine wU om ?_;cbv;refine xD om ?_;cbv;refine xE uY rfl rfl rfl (by simp[zB,zI]) rfl ⟨by simp[zI,y7]⟩ (zV (by simp[zI,zB] <;> omega) (by simp[zI,zB] at *;exact om)) rfl ?_;cbv;exact⟨zE om om,j+1,(by show j+1<=us.length;omega),(by show us.length-(j+1)<us.length-j;omega),wkY (by cbv;repeat' first|exact trivial|exact lR|exact zF om|exact zR rfl (by rw[f'];simp[zI,zB])|exact zC (by rw[f'];simp only[<-z3,Zh];rfl)|apply And.intro)⟩
    ·(have p2:¬0<b2:=by exact om);rw[if_neg p2] at f'
     rw[if_neg (λg=>p2 g.2)] at f';cbv;refine wU om ?_;cbv;refine yA om ?_;cbv;exact⟨zE om om,j+1,(by show j+1<=us.length;omega),(by show us.length-(j+1)<us.length-j;omega),wkY (by cbv;repeat' first|exact trivial|exact lR|exact zF om|exact zR rfl (by rw[f'];simp[zI,zB])|exact zC (by rw[f'];simp only[<-z3,Zh];rfl)|apply And.intro)⟩
   ·(have p1:¬0<b1:=by exact om);rw[if_neg p1] at f'
    cbv;refine zG (λe4=>?_) (λe4=>?_)
    ·(have p2:0<b2:=by exact om);rw[if_pos p2] at f'
     rw[if_neg (λg=>p1 g.1)] at f';cbv;refine xE uY rfl rfl rfl (by simp[zB,zI]) rfl ⟨by simp[zI,y7]⟩ (zV (by simp[zI,zB] <;> omega) (by simp[zI,zB] at *;exact om)) rfl ?_;cbv;refine yF om ?_;cbv;exact⟨zE om om,j+1,(by show j+1<=us.length;omega),(by show us.length-(j+1)<us.length-j;omega),wkY (by cbv;repeat' first|exact trivial|exact lR|exact zF om|exact zR rfl (by rw[f'];simp[zI,zB])|exact zC (by rw[f'];simp only[<-z3,Zh];rfl)|apply And.intro)⟩
    ·(have p2:¬0<b2:=by exact om);rw[if_neg p2] at f'
     rw[if_neg (λg=>p1 g.1)] at f';cbv;refine yF om ?_;cbv;exact⟨zE om om,j+1,(by show j+1<=us.length;omega),(by show us.length-(j+1)<us.length-j;omega),wkY (by cbv;repeat' first|exact trivial|exact lR|exact zF om|exact zR rfl (by rw[f'];simp[zI,zB])|exact zC (by rw[f'];simp only[<-z3,Zh];rfl)|apply And.intro)⟩
  (have hN':j=us.length:=by rw[zB] at h;exact om);rw[hN'] at l1 ⊢
  (clear l1 lD hj h hN' bsts;generalize D us.length=X at *;have hT:((enc rwc X).drop 0).take X.length=enc rwc X:=by rw[vS,<-zB rwc X,vV]);have hfr:0+X.length<=(enc rwc X).length:=by rw[zB];omega
  cbv;refine bW _ (.trans (.le (ps':=⟨[(2,zT 3 4 X.length)],[(3,zW 4 (enc rwc X))]⟩) ?_ ?_ rfl) (.frz 3 rfl rfl ?_ ?_)) rfl ?_;{cbv;exact okA};{cbv;exact⟨zC rfl,trivial⟩}
  ·cbv
   repeat' first|exact trivial|exact⟨hfr⟩|apply And.intro
  ·cbv
   repeat' first|exact trivial|apply And.intro
  cbv;exact zU hT

def xr (l:List Rat):Int->Rat:=λv=>(l[v.toNat]?).getD 0
def JA {l:List Rat}{i:Nat}{q:Rat}(h:l[i]?=some q):xr l i=q:=by unfold xr;rw[uF,h];rfl
def evS (f:F) (X:Int->Rat) (i:Nat):Rat:=f.c+evX X (f.ts.take i)
def K4 (X:Int->Rat)(t:Int×Rat):∀ l,evX X (l++[t])=evX X l+t.2*X t.1
 |[]=>by show t.2*X t.1+0=0+t.2*X t.1;grind| u::r=>by rw[Vm];unfold evX;rw[K4 X t r];grind
def Wo (f:F)(X:Int->Rat):evS f X 0=f.c:=by unfold evS;rw[QJ];show f.c+0=f.c;grind
def Wp {f:F}{X:Int->Rat}{i:Nat}{t:Int×Rat}(h:f.ts[i]?=some t):evS f X (i+1)=evS f X i+t.2*X t.1:=by unfold evS;rw[show f.ts.take (i+1)=f.ts.take i++[t] by rw[rJ,h];rfl,K4];grind
def Qi (f:F)(X:Int->Rat):evS f X f.ts.length=f.at X:=by unfold evS;rw[vV];rfl
def FX (m:Nat) (X:Int->Rat) (f:F):Prop:=∀ t,t∈f.ts->Fits m (X t.1)
def mW {f:F}{X:Int->Rat}{k n m:Nat}(hf:f.fl k n)(hx:FX m X f):∀ i,Fits (k+(k+m+1)*i) (evS f X i)
 |0=>by rw[Wo];exact hf.c.mono oM| i+1=>by
  have ih:=mW hf hx i;cases h:f.ts[i]? with
  |none =>
   (have e:evS f X (i+1)=evS f X i:=by unfold evS;rw[yU (by have:=List.getElem?_eq_none_iff.1 h;omega),yU (List.getElem?_eq_none_iff.1 h)]);rw[e];exact ih.mono (by rw[Z1];omega)
  |some t =>
   rw[Wp h];have hm:=yE h;exact (qE ih (wG (hf.t t hm) (hx t hm))).mono (by rw[Z1];omega)
def ST {f:F}{X:Int->Rat}{k n m:Nat}(hf:f.fl k n)(hx:FX m X f):Fits (k+(k+m+1)*n) (f.at X):=by rw[<-Qi];exact (mW hf hx _).mono (Nat.add_le_add_left (wN _ hf.len) _)
def F3 {l:List Rat}{m:Nat}{f:F}(hw:f.wf (l.length:Int))(hl:∀ q,q∈l->Fits m q):FX m (xr l) f:=λt ht=>by
 have h:=hw.v t ht;obtain⟨q,hq⟩:=yB (l:=l) (i:=t.1.toNat) oM;have e:t.1=((t.1.toNat:Nat):Int):=by omega
 rw[e,JA hq];exact hl q (yE hq)
def Mw (f:F)(l:List Rat){k n m:Nat}(hf:f.fl k n)(hw:f.wf (l.length:Int))(hl:∀ q,q∈l->Fits m q)(hk:k<=2^30)(hm:m<=2^30)(hn:k+(k+m+1)*n<=2^30)(hn2:n<=2^30)(hll:l.length<2^40):zH 46 [av (fA f),rlv (l.map zK)] (.tup [rv (zK (f.at (xr l))),iV 0]):=by
 refine sF Tryz.f46 ?_;have fx:=F3 hw hl;have hi:∀ (i:Nat) t,f.ts[i]?=some t->∃ j:Nat,t.1=(j:Int)/\j<l.length/\(l.map zK)[j]?=some (zK (xr l t.1)):=λi t h=>by
  (have hv:=hw.v t (yE h);obtain⟨q,hq⟩:=yB (l:=l) (i:=t.1.toNat) oM;have e:t.1=((t.1.toNat:Nat):Int):=by omega);refine⟨t.1.toNat,e,by omega,?_⟩
  rw[jJ,hq];rw[e,JA hq];rfl
 have cm:∀ t,t∈f.ts->zH 52 [rv (zK t.2),rv (zK (xr l t.1))] (rv (zK (t.2*xr l t.1))):=λt ht=>by have:=s77 (zK t.2) (zK (xr l t.1)) ((z5 (hf.t t ht)).mono oM) ((z5 (fx t ht)).mono oM);rw[yD,yD] at this;exact this
 have ca:∀ (i:Nat) t,f.ts[i]?=some t->zH 51 [rv (zK (evS f (xr l) i)),rv (zK (t.2*xr l t.1))] (rv (zK (evS f (xr l) (i+1)))):=λi t h=>by have hm':=yE h;have hlt:=(w8.1 h).1;have hle:=hf.len;have e:(k+m+1)*i<=(k+m+1)*n:=wN _ oM;have:=s44 (zK (evS f (xr l) i)) (zK (t.2*xr l t.1)) ((z5 (mW hf fx i)).mono oM) ((z5 (wG (hf.t t hm') (fx t hm'))).mono (by have:(k+m+1)*1<=(k+m+1)*n:=wN _ oM;omega));rw[yD,yD,<-Wp h] at this;exact this
 have hlen:f.ts.length<=2^30:=vF hf.len hn2;have e0:=Wo f (xr l);have e9:=Qi f (xr l);obtain⟨V,hV⟩:∃ V:Nat->R,∀ i,zK (evS f (xr l) i)=V i:=⟨_,λ_=>rfl⟩;have hav:av (fA f)=.agg [tsv (tR f.ts),zM ((V 0).neg),nat (V 0).num,nat (V 0).den]:=by rw[<-hV,e0];rfl
 rw[<-e9,hV,hav];simp only[hV] at ca;have hT:∀ (i:Nat) t,f.ts[i]?=some t->(tR f.ts)[i]?=some (t.1,zK t.2):=λi t h=>by simp[tR,jJ,h]
 have hTl:(tR f.ts).length=f.ts.length:=vR _;have hxl:(l.map zK).length=l.length:=yH ..;have facts:∀ i,i<f.ts.length->∃ (z:Int) (v:Nat) (c x y:R),z=(v:Int)/\(tR f.ts)[i]?=some (z,c)/\(l.map zK)[v]?=some x/\v<(l.map zK).length/\zH 52 [rv c,rv x] (rv y)/\zH 51 [rv (V i),rv y] (rv (V (i+1))):=λi h=>by obtain⟨t,ht⟩:=yB h;obtain⟨j,h1,h2,h3⟩:=hi i t ht;exact⟨t.1,j,zK t.2,_,_,h1,hT i t ht,h3,by rw[hxl];exact h2,cm t (yE ht),ca i t ht⟩
 clear hi cm ca hT hav hV e0 e9 fx hl hw hf;generalize f.ts.length=N at *;generalize tR f.ts=T at *;generalize l.map zK=X at *;cbv;refine zY (σ:=Nat) (λi=>⟨[(1,rlv X),(2,.ptr 2 0),(4,.ptr 4 0),(6,.ptr 6 0),(7,iV i)],
   [(2,.box [tsv T,zM ((V 0).neg),nat (V 0).num,nat (V 0).den]),(4,.box [.ff,.nil,.nil]),(6,.box [zM ((V i).neg),nat (V i).num,nat (V i).den])]⟩)
  (λi=>i<=N) (λi=>N-i) 0 (xO _) (wkZ) ?_
 intro i hi';cbv;refine zG (λh=>?_) (λh=>?_)
 ·(have hlt:i<N:=by rw[zB,hTl] at h;exact om);obtain⟨z,v,c,x,y,g0,g1,g2,g3,c1,c2⟩:=facts i hlt
  clear facts;generalize hV1:V (i+1)=V1 at *;generalize hVi:V i=Vi at *;cbv;refine xL g1 wP wH ?_;cbv;refine yF om ?_;cbv;refine yA (by rw[zB];exact om) ?_;cbv;refine zP 10 (by cbv) ?_;cbv;refine u9 g2 g0 jW cH ?_;cbv;refine dA c1 ?_;cbv;refine dA c2 ?_;cbv;refine⟨zE om om,i+1,(by show i+1<=N;omega),(by show N-(i+1)<N-i;omega),.le okZ (by cbv;rw[hV1];repeat' first|exact trivial|exact lR|apply And.intro) rfl⟩
 ·(have hN':i=N:=by rw[zB,hTl] at h;exact om);rw[hN']
  cbv;exact rA





def Ja {N:Int}:∀ {ts:List (Int×Rat)} {lo:Int},Cn ts->(∀ t,t∈ts->lo<=t.1/\t.1<N)->(ts.length:Int)<=max 0 (N-lo)
 |[],lo,_,_=>by simp;omega| t::r,lo,hc,h=>by have h1:=h t vH;have:=Ja (ts:=r) (lo:=t.1+1) hc.tail (λu hu=>⟨by have:=hc.lt u hu;omega,(h u (w6 _ hu)).2⟩);rw[fH];omega
theorem F.wf.short {f:F}{n:Nat}(h:f.wf (n:Int)):f.ts.length<=n:=by have:=Ja (lo:=0) h.cn h.v;omega
def A5 (s:Scp)(unit:Int)(hs:Lsz (2^20) s.lems):zH 138 [sv s,iV unit] (.tup [iV (((s.best unit).1:Int)),iV (((s.best unit).2:Int))]):=by
 refine sF Tryz.f138 ?_;have hll:=hs.len;obtain⟨⟨⟨gn,us,os⟩,⟨lo,hi,rows⟩,⟨ts,c1,c2,c3⟩⟩,path,L⟩:=s;dsimp only at hs hll;have cc:∀ m m',m∈L->m'∈L->zH 45 [rv m.v,rv m'.v] (iV (wX m.v.q m'.v.q)):=λm m' h h'=>Si m.v m'.v ((hs.sz m h).mono (by decide)) ((hs.sz m' h').mono (by decide));have hst:∀ n m r b,j5 L unit n (m::r) b=j5 L unit (n+1) r (if m.u=unit then (if m.up=true then (if b.2=0\/wX m.v.q (wO L b.2)<0 then (b.1,n+1) else b) else (if b.1=0\/0<wX m.v.q (wO L b.1) then (n+1,b.2) else b)) else b):=λ_ _ _ _=>rfl;have hva:∀ k m,L[k-1]?=some m->wO L k=m.v.q:=λk m h=>by unfold wO;rw[h];rfl
 have hni:∀ n b,j5 L unit n [] b=b:=λ_ _=>rfl;have hgoal:((⟨⟨⟨gn,us,os⟩,⟨lo,hi,rows⟩,⟨ts,c1,c2,c3⟩⟩,path,L⟩:Scp).best unit)=j5 L unit 0 L (0,0):=rfl;rw[hgoal];obtain⟨B,hB⟩:=ex (j5 L unit 0 L (0,0));rw[hB];obtain⟨B1,B2⟩:=B;dsimp only;generalize j5 L unit=BG at *;clear hgoal;cbv;refine zY (σ:=Nat×Nat×Nat) (λst=>⟨[(1,iV unit),(2,.ptr 2 0),(6,iV st.2.1),(7,iV st.2.2),(11,llv L),(12,iV (((enc lc L).length:Int))),(13,iV st.1)],[(2,.box [iV gn,alv us,alv os,rlv lo,rlv hi,alv rows,tsv ts,zM c1,nat c2,nat c3,dlv path,llv L])]⟩)
  (λst=>st.1<=L.length/\BG st.1 (L.drop st.1) st.2=(B1,B2)/\st.2.1<=L.length/\st.2.2<=L.length) (λst=>L.length-st.1)
  (0,0,0) ⟨by show 0<=_;omega,hB,xO _,xO _⟩ (wkZ) ?_
 intro st hst';obtain⟨i,b1,b2⟩:=st;obtain⟨h1,h2,h3,h4⟩:=hst';dsimp only at h1 h2 h3 h4;clear hB;cbv;refine zG (λh5=>?_) (λh5=>?_)
 ·(rw[zB] at h5;have hlt:i<L.length:=by exact om);obtain⟨m,hm⟩:=yB hlt
  (have hmem:=yE hm;rw[yJ hm,hst] at h2;have idx:∀ {K:List PV->Prop},K (lc m)->IdxOk 6 (λ_=>enc lc L) (λ_=>(i:Int)) K:=λhK=>u9 hm oM kC j7 hK;have hin:∀ k:Nat,k<=L.length->¬k=0->∃ m',m'∈L/\wO L k=m'.v.q/\∀ {K:List PV->Prop},K (lc m')->IdxOk 6 (λ_=>enc lc L) (λ_=>(k:Int)-1) K:=λk hk h0=>by obtain⟨m',hm'⟩:=yB (l:=L) (i:=k-1) oM;exact⟨m',yE hm',hva k m' hm',λhK=>u9 hm' oM kC j7 hK⟩);clear hst hva;cbv;refine idx ?_;cbv;refine zG (λe1=>?_) (λe1=>?_)
  ·rw[if_pos e1] at h2;cbv;refine zZ (λe2=>?_) (λe2=>?_)
   ·rw[if_pos e2] at h2;cbv;refine zP 15 (by cbv) ?_;cbv;refine zX (λe3=>?_) (λe3=>?_)
    ·(have e3':b2=0:=by exact om);rw[if_pos (.inl e3')] at h2
     cbv;exact⟨zE om om,zE om om,(i+1,b1,(i+1)),⟨om,h2,(by show b1<=_;omega),(by show (i+1)<=_;omega)⟩,om,wkZ⟩
    (have e3':¬b2=0:=by exact om);obtain⟨m',hm',hv',idx'⟩:=hin b2 h4 e3'
    have cx:=cc m m' hmem hm';rw[hv'] at h2;generalize wX m.v.q m'.v.q=x at *;cbv;refine⟨zE om om,idx' ?_⟩;cbv;refine dA cx ?_;cbv;refine zG (λe5=>?_) (λe5=>?_);{rw[if_pos (.inr e5)] at h2;cbv;exact⟨zE om om,zE om om,(i+1,b1,(i+1)),⟨om,h2,(by show b1<=_;omega),(by show (i+1)<=_;omega)⟩,om,wkZ⟩};{rw[if_neg (λh=>h.elim e3' e5)] at h2;cbv;exact⟨zE om om,(i+1,b1,b2),⟨om,h2,(by show b1<=_;omega),(by show b2<=_;omega)⟩,om,wkZ⟩}
   ·rw[if_neg (by rw[e2];decide)] at h2;cbv;refine zP 15 (by cbv) ?_;cbv;refine zX (λe3=>?_) (λe3=>?_)
    ·(have e3':b1=0:=by exact om);rw[if_pos (.inl e3')] at h2
     cbv;exact⟨zE om om,zE om om,(i+1,(i+1),b2),⟨om,h2,(by show (i+1)<=_;omega),(by show b2<=_;omega)⟩,om,wkZ⟩
    (have e3':¬b1=0:=by exact om);obtain⟨m',hm',hv',idx'⟩:=hin b1 h3 e3'
    have cx:=cc m m' hmem hm';rw[hv'] at h2;generalize wX m.v.q m'.v.q=x at *;cbv;refine⟨zE om om,idx' ?_⟩;cbv;refine dA cx ?_;cbv;refine zG (λe5=>?_) (λe5=>?_);{rw[if_pos (.inr e5)] at h2;cbv;exact⟨zE om om,zE om om,(i+1,(i+1),b2),⟨om,h2,(by show (i+1)<=_;omega),(by show b2<=_;omega)⟩,om,wkZ⟩};{rw[if_neg (λh=>h.elim e3' e5)] at h2;cbv;exact⟨zE om om,(i+1,b1,b2),⟨om,h2,(by show b1<=_;omega),(by show b2<=_;omega)⟩,om,wkZ⟩}
  {rw[if_neg e1] at h2;cbv;exact⟨zE om om,(i+1,b1,b2),⟨om,h2,(by show b1<=_;omega),(by show b2<=_;omega)⟩,om,wkZ⟩}
 ·(have hi:i=L.length:=by rw[zB] at h5;exact om);rw[hi,vE,hni] at h2
  obtain⟨q1,q2⟩:=Prod.mk.inj h2;subst q1 q2;cbv;exact rA
def Mu (s:Scp)(j:Int)(hs:s.sz (2^20)):zH 139 [sv s,iV j,iV (((s.best j).1:Int)),iV (((s.best j).2:Int))] (.tup [zM (s.onU j),zM (s.offU j)]):=by
 refine sF Tryz.f139 ?_;have cd1:=Zt s 1 j (hs.path.mono (by decide));have cd2:=Zt s 2 j (hs.path.mono (by decide));have csg:∀ m,m∈s.lems->zH 81 [rv m.v] (iV (yG m.v.q)):=λm hm=>s86 m.v (by have:=(hs.lems.sz m hm).n;omega);have hlen:=hs.lems.len;have hbb:∀ k:Nat,(k=(s.best j).1\/k=(s.best j).2)->k≠0->∃ m,s.lems[k-1]?=some m/\k-1<s.lems.length:=λk hk h0=>by obtain⟨m,hm,_⟩:=aV hk h0;exact⟨m,hm,(w8.1 hm).1⟩
 have hb1:=hbb _ (.inl rfl);have hb2:=hbb _ (.inr rfl);clear hbb;have hv:∀ (k:Nat) m,s.lems[k-1]?=some m->wO s.lems k=m.v.q:=λk m h=>by unfold wO;rw[h];rfl
 have hon:s.onU j=(s.dcd 1 j || (decide (0<(s.best j).1)&&decide (0<=yG (wO s.lems (s.best j).1)))):=rfl;have hoff:s.offU j=(s.dcd 2 j || (decide (0<(s.best j).2)&&decide (yG (wO s.lems (s.best j).2)<=0))):=rfl;generalize s.onU j=on at *;generalize s.offU j=off at *;generalize s.dcd 1 j=d1 at *;generalize s.dcd 2 j=d2 at *;generalize (s.best j).1=b1 at *;generalize (s.best j).2=b2 at *;have o11:d1=true->on=true:=λh=>by rw[hon,h];rfl
 have o12:d1=false->b1=0->on=false:=λh g=>by rw[hon,h,g];rfl
 have o13:d1=false->∀ m,s.lems[b1-1]?=some m->0<b1->on=decide (0<=yG m.v.q):=λh m hm g=>by rw[hon,h,hv b1 m hm,decide_eq_true g];rfl
 have o21:d2=true->off=true:=λh=>by rw[hoff,h];rfl
 have o22:d2=false->b2=0->off=false:=λh g=>by rw[hoff,h,g];rfl
 have o23:d2=false->∀ m,s.lems[b2-1]?=some m->0<b2->off=decide (yG m.v.q<=0):=λh m hm g=>by rw[hoff,h,hv b2 m hm,decide_eq_true g];rfl
 clear hon hoff hv hs;obtain⟨⟨⟨gn,us,os⟩,⟨lo,hi,rows⟩,⟨ts,c1,c2,c3⟩⟩,path,L⟩:=s;dsimp only at csg hlen hb1 hb2 o13 o23;cbv;refine cA cd1 ?_;cbv;refine yI (λeA=>?_) (λeA=>?_)
 ·have qA:=o11 eA;cbv;refine cA cd2 ?_;cbv;refine yI (λeB=>?_) (λeB=>?_)
  ·have qB:=o21 eB;cbv
   (refine rC ?_;cbv)
   exact⟨yN qA,yN qB,trivial⟩
  ·cbv;refine zX (λfB=>?_) (λfB=>?_)
   ·(have gB:b2≠0:=by exact om);obtain⟨mB,hmB,hlB⟩:=hb2 gB
    have qB:=o23 eB mB hmB oM;have csB:=csg mB (yE hmB);have ixB:∀ {K:List PV->Prop},K (lc mB)->IdxOk 6 (λ_=>enc lc L) (λ_=>(b2:Int)-1) K:=λhK=>u9 hmB oM kC j7 hK;generalize yG mB.v.q=sgB at *;cbv;refine⟨zE (by exact om) (by exact om),ixB ?_⟩;cbv;refine cA csB ?_;cbv
    (refine rC ?_;cbv)
    exact⟨yN qA,z4 qB.symm,trivial⟩
   ·have qB:=o22 eB (by exact om);cbv
    (refine rC ?_;cbv)
    exact⟨yN qA,zO qB,trivial⟩
 ·cbv;refine zX (λfA=>?_) (λfA=>?_)
  ·(have gA:b1≠0:=by exact om);obtain⟨mA,hmA,hlA⟩:=hb1 gA
   have qA:=o13 eA mA hmA oM;have csA:=csg mA (yE hmA);have ixA:∀ {K:List PV->Prop},K (lc mA)->IdxOk 6 (λ_=>enc lc L) (λ_=>(b1:Int)-1) K:=λhK=>u9 hmA oM kC j7 hK;generalize yG mA.v.q=sgA at *;cbv;refine⟨zE (by exact om) (by exact om),ixA ?_⟩;cbv;refine cA csA ?_;cbv;refine cA cd2 ?_;cbv;refine yI (λeB=>?_) (λeB=>?_)
   ·have qB:=o21 eB;cbv
    (refine rC ?_;cbv)
    exact⟨z4 qA.symm,yN qB,trivial⟩
   ·cbv;refine zX (λfB=>?_) (λfB=>?_)
    ·(have gB:b2≠0:=by exact om);obtain⟨mB,hmB,hlB⟩:=hb2 gB
     have qB:=o23 eB mB hmB oM;have csB:=csg mB (yE hmB);have ixB:∀ {K:List PV->Prop},K (lc mB)->IdxOk 6 (λ_=>enc lc L) (λ_=>(b2:Int)-1) K:=λhK=>u9 hmB oM kC j7 hK;generalize yG mB.v.q=sgB at *;cbv;refine⟨zE (by exact om) (by exact om),ixB ?_⟩;cbv;refine cA csB ?_;cbv
     (refine rC ?_;cbv)
     exact⟨z4 qA.symm,z4 qB.symm,trivial⟩
    ·have qB:=o22 eB (by exact om);cbv
     (refine rC ?_;cbv)
     exact⟨z4 qA.symm,zO qB,trivial⟩
  ·have qA:=o12 eA (by exact om);cbv;refine cA cd2 ?_;cbv;refine yI (λeB=>?_) (λeB=>?_)
   ·have qB:=o21 eB;cbv
    (refine rC ?_;cbv)
    exact⟨zO qA,yN qB,trivial⟩
   ·cbv;refine zX (λfB=>?_) (λfB=>?_)
    ·(have gB:b2≠0:=by exact om);obtain⟨mB,hmB,hlB⟩:=hb2 gB
     have qB:=o23 eB mB hmB oM;have csB:=csg mB (yE hmB);have ixB:∀ {K:List PV->Prop},K (lc mB)->IdxOk 6 (λ_=>enc lc L) (λ_=>(b2:Int)-1) K:=λhK=>u9 hmB oM kC j7 hK;generalize yG mB.v.q=sgB at *;cbv;refine⟨zE (by exact om) (by exact om),ixB ?_⟩;cbv;refine cA csB ?_;cbv
     (refine rC ?_;cbv)
     exact⟨zO qA,z4 qB.symm,trivial⟩
    ·have qB:=o22 eB (by exact om);cbv
     (refine rC ?_;cbv)
     exact⟨zO qA,zO qB,trivial⟩
end Go.Proofs.YtboocdbmnfjomaaGreat
