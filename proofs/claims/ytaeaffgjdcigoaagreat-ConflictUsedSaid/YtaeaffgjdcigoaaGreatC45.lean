/- A part of the proof: KsH. -/
import Derived.Test.YtaeaffgjdcigoaaGreatC40
import Derived.Test.YtaeaffgjdcigoaaGreatC27
set_option linter.all false
namespace Go.Proofs.YtaeaffgjdcigoaaGreat
open Go
set_option maxRecDepth 100000
set_option maxHeartbeats 8000000
def wF:F:=⟨[(0,1)],-1⟩
def wX:FQry:=⟨⟨1,[wF],[wF]⟩,⟨[(0,3)],[]⟩,wF⟩
def wS:Scp:=⟨wX.q,[⟨1,0,R0⟩],[]⟩
def wL:List Mult:=mR [(⟨7,0,0,0⟩,1)]
theorem wq_sz:wX.q.sz (2^14):=by
 have f3:∀ z:Int,z.natAbs<2^20->(zJ ((z:Int):Rat)).sz 1:=fun z h=>zU (zEG (uI h (by decide)) (by decide));have fw:(fA wF).sz 1:=by
  (refine⟨⟨by show 1<2^38;decide,fun t ht=>?_⟩,f3 (-1) (by decide)⟩;have:t=((0:Int),zJ ((1:Int):Rat)):=by simpa[fA,wF,tR] using ht);rw[this];exact f3 1 (by decide)
 refine⟨⟨⟨by show 1<2^38;decide,fun a ha=>?_⟩,⟨by show 1<2^38;decide,fun a ha=>?_⟩⟩,⟨⟨by show 1<2^38;decide,fun a ha=>?_⟩,⟨by show 1<2^38;decide,fun a ha=>?_⟩,⟨by show 0<2^38;decide,fun a ha=>absurd ha (by simp[wX,FQry.q,FReg.g])⟩⟩,fw.mono (by decide)⟩
 ·(have:a=fA wF:=by simpa[wX,FQry.q,FGrp.g] using ha);rw[this];exact fw.mono (by decide)
 ·(have:a=fA wF:=by simpa[wX,FQry.q,FGrp.g] using ha);rw[this];exact fw.mono (by decide)
 ·(have:a=zJ ((0:Int):Rat):=by simpa[wX,FQry.q,FReg.g] using ha);rw[this];exact (f3 0 (by decide)).mono (by decide)
 ·(have:a=zJ ((3:Int):Rat):=by simpa[wX,FQry.q,FReg.g] using ha);rw[this];exact (f3 3 (by decide)).mono (by decide)
theorem wS_cv:Cv wX wS 1 0:=⟨⟨rfl,rfl,fun d hd=>by
 have:d=⟨1,0,R0⟩:=by simpa[wS] using hd
 rw[this];exact⟨xD _,xD _⟩,by decide,fun m hm=>absurd hm (by simp[wS])⟩,by decide +kernel,wq_sz,zZ _,zZ _,fun m hm=>absurd hm (by simp[wS]),fun i m hm=>by simp[wS] at hm⟩
theorem zTW:∀ m,m∈wL->RoIn wS m.row:=fun m hm=>by
 have:m=⟨⟨7,0,0,0⟩,zJ 1⟩:=by simpa[wL,mR] using hm
 rw[this];exact⟨⟨by decide,by decide⟩,fun h=>absurd h (by decide),⟨by decide,by decide⟩,⟨by decide,by decide⟩⟩
theorem wM1:uY (wS.marks wL).1=[0]:=by decide +kernel
theorem wM2:uY (wS.marks wL).2=[]:=by decide +kernel
theorem wGo:lgo wS [0] []=some [(0,false)]:=by decide +kernel
theorem wSc:wS.scopeB=true:=by decide +kernel
theorem wCl:wS.closes false wL=true:=by decide +kernel
theorem wL_sz:Msz (2^20) wL:=⟨by show 1<2^38;decide,fun m hm=>by
 have:m=⟨⟨7,0,0,0⟩,zJ 1⟩:=by simpa[wL,mR] using hm
 rw[this];exact (zU fits_one).mono (by decide)⟩
theorem wLrn:LrnOk wS wL:=by
 obtain⟨u1,u2,u3,u4,u5⟩:=wS_cv.usz (by decide) (by decide);refine⟨u4,fun m hm=>absurd hm (by simp[wS]),wL_sz.mono (by decide),by decide,fun m hm=>(zTW m hm).rsm (by decide),wS_cv.used (by decide) (by decide) zTW (by decide),fun k hk=>?_,fun k hk=>?_,?_,?_,fun ls hls=>?_⟩
 ·(rw[wM1] at hk;have:k=0:=by simpa using hk);subst this
  exact⟨by decide,by decide⟩
 {rw[wM2] at hk;exact absurd hk (by simp)};{rw[wM1];decide};{rw[wM2];decide};{rw[wM1,wGo] at hls;cases hls;trivial}
def wR:Rsn:=⟨[(0,false)],[],false,wL⟩
theorem zXD:zBY wS false wL=(wR,0):=by unfold zBY;rw[wSc,wCl,wM1,wM2,wGo];rfl
theorem wRok:RsnOk wX.q wR:=⟨wq_sz.mono (by decide),by decide,⟨by decide,fun m hm=>absurd hm (by simp[wR]),fun m hm=>absurd hm (by simp[wR])⟩,fun m hm=>absurd hm (by simp[wR]),wL_sz.mono (by decide),by decide⟩
theorem wVal:zIS wX.q wR=true:=by decide +kernel
theorem yAJ:zE 10 [] (.bool (fun _=>true)):=by
 refine sF Tryz.f10 ?_;have c1:=s32 1 (by decide) (by decide);have cm:=s32 (-1) (by decide) (by decide);have c3:=s32 3 (by decide) (by decide);have cu:=wS_cv.used (by decide) (by decide) zTW (by decide);have cl:=sLrn wS false wL wLrn;have cv:=sVdP wX.q wR wRok;rw[wM1,wM2] at cu;rw[zXD] at cl;rw[wVal] at cv;generalize hO:zJ ((1:Int):Rat)=O at *
 generalize hN:zJ ((-1:Int):Rat)=N at *
 generalize hT:zJ ((3:Int):Rat)=T at *
 have e0:fA wF=⟨[(0,O)],N⟩:=by rw[<-hO,<-hN];rfl
 have eS:wS=⟨⟨⟨1,[⟨[(0,O)],N⟩],[⟨[(0,O)],N⟩]⟩,⟨[R0],[T],[]⟩,⟨[(0,O)],N⟩⟩,[⟨1,0,R0⟩],[]⟩:=by rw[<-e0,<-hT];exact congrArg (fun z=>(⟨⟨⟨1,[fA wF],[fA wF]⟩,⟨[z],[zJ ((3:Int):Rat)],[]⟩,fA wF⟩,[⟨1,0,R0⟩],[]⟩:Scp)) u6
 have eQ:wX.q=⟨⟨1,[⟨[(0,O)],N⟩],[⟨[(0,O)],N⟩]⟩,⟨[R0],[T],[]⟩,⟨[(0,O)],N⟩⟩:=congrArg Scp.q eS;have eL:wL=[⟨⟨7,0,0,0⟩,O⟩]:=by rw[<-hO];rfl
 have eR:wR=⟨[(0,false)],[],false,[⟨⟨7,0,0,0⟩,O⟩]⟩:=by unfold wR;rw[eL]
 rw[eR] at cl cv;rw[eS,eL] at cu cl;rw[eQ] at cv;clear eS eQ eL eR e0 hO hN hT;dsimp only [sv] at *
 cbv;refine cA c1 ?_;cbv;refine cA cm ?_;cbv;refine jS 13 (by cbv) (by cbv) ?_;cbv;refine dA c3 ?_;cbv;refine cA c1 ?_;cbv;refine zB3 ?_;cbv;refine yP rfl (by repeat' first|exact trivial|exact lR|exact zR rfl|exact yN rfl|exact zM rfl|exact yW rfl|exact zC rfl|apply And.intro) cu rfl ?_;cbv;refine yP rfl (by repeat' first|exact trivial|exact lR|exact zR rfl|exact yN rfl|exact zM rfl|exact yW rfl|exact zC rfl|apply And.intro) cl rfl ?_;clear cu cl c1 cm c3;cbv;have i0:[(0:Int)][0]?=some 0:=rfl;have i1:[((0:Int),false)][0]?=some (0,false):=rfl
 repeat' first
  |(refine uZ (by first|decide|(rw[zA];decide)|rfl) ?_;cbv)
  |(refine zG7 rfl ?_;cbv)
  |(refine yX i0 nW zB0 ?_;cbv)
  |(refine yX i1 uB qC ?_;cbv)
  |(refine zOT (a:=(0,false)) (b:=(0,false)) ?_;cbv)
  |(refine yP rfl (by repeat' first|exact trivial|exact lR|exact zR rfl|exact yN rfl|exact zM rfl|exact yW rfl|exact zC rfl|apply And.intro) cv rfl ?_;cbv)
 (refine rC ?_;cbv)
 exact lR
end Go.Proofs.YtaeaffgjdcigoaaGreat
