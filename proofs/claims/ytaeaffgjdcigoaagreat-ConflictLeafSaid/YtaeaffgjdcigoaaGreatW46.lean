/- A part of the proof: KsH. -/
import Derived.Test.YtaeaffgjdcigoaaGreatW38
import Derived.Test.YtaeaffgjdcigoaaGreatW26
set_option linter.all false
namespace Go.Proofs.YtaeaffgjdcigoaaGreat
open Go
set_option maxRecDepth 100000
set_option maxHeartbeats 8000000
def wF:F:=⟨[(0,1)],-1⟩
def wX:FQry:=⟨⟨1,[wF],[wF]⟩,⟨[(0,3)],[]⟩,wF⟩
def wS:Scp:=⟨wX.q,[⟨1,0,R0⟩],[]⟩
def wL:List Mult:=mR [(⟨7,0,0,0⟩,1)]
def wq_sz:wX.q.sz (2^14):=by
 have f3:∀ z:Int,z.natAbs<2^20->(zI ((z:Int):Rat)).sz 1:=λz h=>zU (Wu (uY h (by decide)) (by decide));have fw:(fA wF).sz 1:=by
  (refine⟨⟨by show 1<2^38;decide,λt ht=>?_⟩,f3 (-1) (by decide)⟩;have:t=((0:Int),zI ((1:Int):Rat)):=by simpa[fA,wF,tR] using ht);rw[this];exact f3 1 (by decide)
 refine⟨⟨⟨by show 1<2^38;decide,λa ha=>?_⟩,⟨by show 1<2^38;decide,λa ha=>?_⟩⟩,⟨⟨by show 1<2^38;decide,λa ha=>?_⟩,⟨by show 1<2^38;decide,λa ha=>?_⟩,⟨by show 0<2^38;decide,λa ha=>absurd ha (by simp[wX,FQry.q,FReg.g])⟩⟩,fw.mono (by decide)⟩
 ·(have:a=fA wF:=by simpa[wX,FQry.q,FGrp.g] using ha);rw[this];exact fw.mono (by decide)
 ·(have:a=fA wF:=by simpa[wX,FQry.q,FGrp.g] using ha);rw[this];exact fw.mono (by decide)
 ·(have:a=zI ((0:Int):Rat):=by simpa[wX,FQry.q,FReg.g] using ha);rw[this];exact (f3 0 (by decide)).mono (by decide)
 ·(have:a=zI ((3:Int):Rat):=by simpa[wX,FQry.q,FReg.g] using ha);rw[this];exact (f3 3 (by decide)).mono (by decide)
def wS_cv:Cw wS 1 0:=⟨λd hd=>by
 have:d=⟨1,0,R0⟩:=by simpa[wS] using hd
 rw[this];exact⟨xA _,xA _⟩,by decide +kernel,wq_sz,yD _,yD _,λm hm=>absurd hm (by simp[wS]),λm hm=>absurd hm (by simp[wS]),λi m hm=>by simp[wS] at hm⟩
def Dx:∀ m,m∈wL->RoIn wS m.row:=λm hm=>by
 have:m=⟨⟨7,0,0,0⟩,zI 1⟩:=by simpa[wL,mR] using hm
 rw[this];exact⟨⟨by decide,by decide⟩,λh=>absurd h (by decide),⟨by decide,by decide⟩,⟨by decide,by decide⟩⟩
def wM1:vM (wS.marks wL).1=[0]:=by decide +kernel
def wM2:vM (wS.marks wL).2=[]:=by decide +kernel
def wGo:lgo wS [0] []=some [(0,false)]:=by decide +kernel
def wSc:wS.scopeB=true:=by decide +kernel
def wCl:wS.closes false wL=true:=by decide +kernel
def wL_sz:Msz (2^20) wL:=⟨by show 1<2^38;decide,λm hm=>by
 have:m=⟨⟨7,0,0,0⟩,zI 1⟩:=by simpa[wL,mR] using hm
 rw[this];exact (zU fits_one).mono (by decide)⟩
def Lm:LrnOk wS wL:=by
 obtain⟨u1,u2,u3,u4,u5⟩:=wS_cv.usz (by decide) (by decide);refine⟨u4,λm hm=>absurd hm (by simp[wS]),wL_sz.mono (by decide),by decide,λm hm=>(Dx m hm).rsm (by decide),wS_cv.used (by decide) (by decide) Dx (by decide),λk hk=>?_,λk hk=>?_,?_,?_,λls hls=>?_⟩
 ·(rw[wM1] at hk;have:k=0:=by simpa using hk);subst this
  exact⟨by decide,by decide⟩
 {rw[wM2] at hk;exact absurd hk (by simp)};{rw[wM1];decide};{rw[wM2];decide};{rw[wM1,wGo] at hls;cases hls;trivial}
def wR:Rsn:=⟨[(0,false)],[],false,wL⟩
def Pr:vW wS false wL=(wR,0):=by unfold vW;rw[wSc,wCl,wM1,wM2,wGo];rfl
def Ll:RsnOk wX.q wR:=⟨wq_sz.mono (by decide),by decide,⟨by decide,λm hm=>absurd hm (by simp[wR]),λm hm=>absurd hm (by simp[wR])⟩,λm hm=>absurd hm (by simp[wR]),wL_sz.mono (by decide),by decide⟩
def Lk:w4 wX.q wR=true:=by decide +kernel
def R9:zC 10 [] (zL true):=by
 refine sF Tryz.f10 ?_;have c1:=s32 1 (by decide) (by decide);have cm:=s32 (-1) (by decide) (by decide);have c3:=s32 3 (by decide) (by decide);have cu:=wS_cv.used (by decide) (by decide) Dx (by decide);have cl:=Tl wS false wL Lm;have cv:=DT wX.q wR Ll;rw[wM1,wM2] at cu;rw[Pr] at cl;rw[Lk] at cv;generalize hO:zI ((1:Int):Rat)=O at *;generalize hN:zI ((-1:Int):Rat)=N at *;generalize hT:zI ((3:Int):Rat)=T at *;have e0:fA wF=⟨[(0,O)],N⟩:=by rw[<-hO,<-hN];rfl
 have eS:wS=⟨⟨⟨1,[⟨[(0,O)],N⟩],[⟨[(0,O)],N⟩]⟩,⟨[R0],[T],[]⟩,⟨[(0,O)],N⟩⟩,[⟨1,0,R0⟩],[]⟩:=by rw[<-e0,<-hT];exact congrArg (λz=>(⟨⟨⟨1,[fA wF],[fA wF]⟩,⟨[z],[zI ((3:Int):Rat)],[]⟩,fA wF⟩,[⟨1,0,R0⟩],[]⟩:Scp)) uJ
 have eQ:wX.q=⟨⟨1,[⟨[(0,O)],N⟩],[⟨[(0,O)],N⟩]⟩,⟨[R0],[T],[]⟩,⟨[(0,O)],N⟩⟩:=congrArg Scp.q eS;have eL:wL=[⟨⟨7,0,0,0⟩,O⟩]:=by rw[<-hO];rfl
 have eR:wR=⟨[(0,false)],[],false,[⟨⟨7,0,0,0⟩,O⟩]⟩:=by unfold wR;rw[eL]
 rw[eR] at cl cv;rw[eS,eL] at cu cl;rw[eQ] at cv;clear eS eQ eL eR e0 hO hN hT;dsimp only [sv] at *;cbv;refine cA c1 ?_;cbv;refine cA cm ?_;cbv;refine qV 13 (by cbv) (by cbv) ?_;cbv;refine dA c3 ?_;cbv;refine cA c1 ?_;cbv;refine eF ?_;cbv;refine yJ rfl (by repeat' first|exact trivial|exact lR|exact zR rfl|exact yV rfl|exact zK rfl|exact yM rfl|exact zB rfl|apply And.intro) cu rfl ?_;cbv;refine yJ rfl (by repeat' first|exact trivial|exact lR|exact zR rfl|exact yV rfl|exact zK rfl|exact yM rfl|exact zB rfl|apply And.intro) cl rfl ?_;clear cu cl c1 cm c3;cbv;have i0:[(0:Int)][0]?=some 0:=rfl;have i1:[((0:Int),false)][0]?=some (0,false):=rfl
 repeat' first
  |(refine wP (by first|decide|(rw[zA];decide)|rfl) ?_;cbv)
  |(refine rZ rfl ?_;cbv)
  |(refine yL i0 YY Qp ?_;cbv)
  |(refine yL i1 vH vG ?_;cbv)
  |(refine G8 (a:=(0,false)) (b:=(0,false)) ?_;cbv)
  |(refine yJ rfl (by repeat' first|exact trivial|exact lR|exact zR rfl|exact yV rfl|exact zK rfl|exact yM rfl|exact zB rfl|apply And.intro) cv rfl ?_;cbv)
 exact rA
end Go.Proofs.YtaeaffgjdcigoaaGreat
