/- A part of the proof: KsH. -/
import Derived.Test.YtaeaffgjdcigoaaGreatG36
import Derived.Test.YtaeaffgjdcigoaaGreatG37
import Derived.Test.YtaeaffgjdcigoaaGreatG25
set_option linter.all false
namespace Go.Proofs.YtaeaffgjdcigoaaGreat
open Go
set_option maxRecDepth 100000
set_option maxHeartbeats 8000000
def wF:F:=⟨[(0,1)],-1⟩
def wX:FQry:=⟨⟨1,[wF],[wF]⟩,⟨[(0,3)],[]⟩,wF⟩
def wS:Scp:=⟨wX.q,[⟨1,0,R0⟩],[]⟩
def wL:List Mult:=mR [(⟨7,0,0,0⟩,1)]
def wq_sz:wX.q.sz (2^14):=by
 have f3:∀ z:Int,z.natAbs<2^20->(zG ((z:Int):Rat)).sz 1:=λz h=>zT (WJ (uR h (by decide)) (by decide));have fw:(fA wF).sz 1:=by
  (refine⟨⟨by show 1<2^38;decide,λt ht=>?_⟩,f3 (-1) (by decide)⟩;have:t=((0:Int),zG ((1:Int):Rat)):=by simpa[fA,wF,tR] using ht);rw[this];exact f3 1 (by decide)
 refine⟨⟨⟨by show 1<2^38;decide,λa ha=>?_⟩,⟨by show 1<2^38;decide,λa ha=>?_⟩⟩,⟨⟨by show 1<2^38;decide,λa ha=>?_⟩,⟨by show 1<2^38;decide,λa ha=>?_⟩,⟨by show 0<2^38;decide,λa ha=>absurd ha (by simp[wX,FQry.q,FReg.g])⟩⟩,fw.mono (by decide)⟩
 ·(have:a=fA wF:=by simpa[wX,FQry.q,FGrp.g] using ha);rw[this];exact fw.mono (by decide)
 ·(have:a=fA wF:=by simpa[wX,FQry.q,FGrp.g] using ha);rw[this];exact fw.mono (by decide)
 ·(have:a=zG ((0:Int):Rat):=by simpa[wX,FQry.q,FReg.g] using ha);rw[this];exact (f3 0 (by decide)).mono (by decide)
 ·(have:a=zG ((3:Int):Rat):=by simpa[wX,FQry.q,FReg.g] using ha);rw[this];exact (f3 3 (by decide)).mono (by decide)
def wS_cv:Cw wS 1 0:=⟨λd hd=>by
 have:d=⟨1,0,R0⟩:=by simpa[wS] using hd
 rw[this];exact⟨yU _,yU _⟩,by decide +kernel,wq_sz,yD _,yD _,λm hm=>absurd hm (by simp[wS]),λm hm=>absurd hm (by simp[wS]),λi m hm=>by simp[wS] at hm⟩
def Ck:∀ m,m∈wL->RoIn wS m.row:=λm hm=>by
 have:m=⟨⟨7,0,0,0⟩,zG 1⟩:=by simpa[wL,mR] using hm
 rw[this];exact⟨⟨by decide,by decide⟩,λh=>absurd h (by decide),⟨by decide,by decide⟩,⟨by decide,by decide⟩⟩
def wM1:wN (wS.marks wL).1=[0]:=by decide +kernel
def wM2:wN (wS.marks wL).2=[]:=by decide +kernel
def wGo:lgo wS [0] []=some [(0,false)]:=by decide +kernel
def wSc:wS.scopeB=true:=by decide +kernel
def wCl:wS.closes false wL=true:=by decide +kernel
def wL_sz:Msz (2^20) wL:=⟨by show 1<2^38;decide,λm hm=>by
 have:m=⟨⟨7,0,0,0⟩,zG 1⟩:=by simpa[wL,mR] using hm
 rw[this];exact (zT fits_one).mono (by decide)⟩
def Eg:LrnOk wS wL:=by
 obtain⟨u1,u2,u3,u4,u5⟩:=wS_cv.usz (by decide) (by decide);refine⟨u4,λm hm=>absurd hm (by simp[wS]),wL_sz.mono (by decide),by decide,λm hm=>(Ck m hm).rsm (by decide),wS_cv.used (by decide) (by decide) Ck (by decide),λk hk=>?_,λk hk=>?_,?_,?_,λls hls=>?_⟩
 ·(rw[wM1] at hk;have:k=0:=by simpa using hk);subst this
  exact⟨by decide,by decide⟩
 {rw[wM2] at hk;exact absurd hk (by simp)};{rw[wM1];decide};{rw[wM2];decide};{rw[wM1,wGo] at hls;cases hls;trivial}
def wR:Rsn:=⟨[(0,false)],[],false,wL⟩
def Tg:qL wS false wL=(wR,0):=by unfold qL;rw[wSc,wCl,wM1,wM2,wGo];rfl
def Ef:RsnOk wX.q wR:=⟨wq_sz.mono (by decide),by decide,⟨by decide,λm hm=>absurd hm (by simp[wR]),λm hm=>absurd hm (by simp[wR])⟩,λm hm=>absurd hm (by simp[wR]),wL_sz.mono (by decide),by decide⟩
def Ee:aR wX.q wR=true:=by decide +kernel
def PW:zD 10 [] (bV true):=by
 refine sF Tryz.f10 ?_;have c1:=s32 1 (by decide) (by decide);have cm:=s32 (-1) (by decide) (by decide);have c3:=s32 3 (by decide) (by decide);have cu:=wS_cv.used (by decide) (by decide) Ck (by decide);have cl:=Mg wS false wL Eg;have cv:=NT wX.q wR Ef;rw[wM1,wM2] at cu;rw[Tg] at cl;rw[Ee] at cv;generalize hO:zG ((1:Int):Rat)=O at *;generalize hN:zG ((-1:Int):Rat)=N at *;generalize hT:zG ((3:Int):Rat)=T at *;have e0:fA wF=⟨[(0,O)],N⟩:=by rw[<-hO,<-hN];rfl
 have eS:wS=⟨⟨⟨1,[⟨[(0,O)],N⟩],[⟨[(0,O)],N⟩]⟩,⟨[R0],[T],[]⟩,⟨[(0,O)],N⟩⟩,[⟨1,0,R0⟩],[]⟩:=by rw[<-e0,<-hT];exact congrArg (λz=>(⟨⟨⟨1,[fA wF],[fA wF]⟩,⟨[z],[zG ((3:Int):Rat)],[]⟩,fA wF⟩,[⟨1,0,R0⟩],[]⟩:Scp)) u9
 have eQ:wX.q=⟨⟨1,[⟨[(0,O)],N⟩],[⟨[(0,O)],N⟩]⟩,⟨[R0],[T],[]⟩,⟨[(0,O)],N⟩⟩:=congrArg Scp.q eS;have eL:wL=[⟨⟨7,0,0,0⟩,O⟩]:=by rw[<-hO];rfl
 have eR:wR=⟨[(0,false)],[],false,[⟨⟨7,0,0,0⟩,O⟩]⟩:=by unfold wR;rw[eL]
 rw[eR] at cl cv;rw[eS,eL] at cu cl;rw[eQ] at cv;clear eS eQ eL eR e0 hO hN hT;dsimp only [sv] at *;cbv;refine cA c1 ?_;cbv;refine cA cm ?_;cbv;refine kJ 13 (by cbv) (by cbv) ?_;cbv;refine dA c3 ?_;cbv;refine cA c1 ?_;cbv;refine bQ ?_;cbv;refine yP rfl (by repeat' first|exact trivial|exact lR|exact zS rfl|exact yH rfl|exact zK rfl|exact yX rfl|exact zB rfl|apply And.intro) cu rfl ?_;cbv;refine yP rfl (by repeat' first|exact trivial|exact lR|exact zS rfl|exact yH rfl|exact zK rfl|exact yX rfl|exact zB rfl|apply And.intro) cl rfl ?_;clear cu cl c1 cm c3;cbv;have i0:[(0:Int)][0]?=some 0:=rfl;have i1:[((0:Int),false)][0]?=some (0,false):=rfl
 repeat' first
  |(refine vN (by first|decide|(rw[zA];decide)|rfl) ?_;cbv)
  |(refine rR rfl ?_;cbv)
  |(refine yB i0 kY dC ?_;cbv)
  |(refine yB i1 xX wQ ?_;cbv)
  |(refine Q2 (a:=(0,false)) (b:=(0,false)) ?_;cbv)
  |(refine yP rfl (by repeat' first|exact trivial|exact lR|exact zS rfl|exact yH rfl|exact zK rfl|exact yX rfl|exact zB rfl|apply And.intro) cv rfl ?_;cbv)
 exact rA
end Go.Proofs.YtaeaffgjdcigoaaGreat
