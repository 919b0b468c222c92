/- A part of the proof: KtD. -/
import Derived.Test.YtaeaffgjdcigoaaGreatD46
import Derived.Test.YtaeaffgjdcigoaaGreatD40
set_option linter.all false
namespace Go.Proofs.YtaeaffgjdcigoaaGreat
open Go
set_option maxRecDepth 100000
set_option maxHeartbeats 8000000
def Rw (raw:List UInt8)(em:Bool)(w:UInt8)(h1:raw.length<=9223372036854775807):zD 4 [u8v raw,bV em,.int .u8 (λ_=>(w.toNat:Int))] (bV true):=by
 refine sF Tryz.f4 ?_;have ca:=Sb;have ccl:raw.length<2^38->zD 11 [u8v raw] (.tup [sv (clo raw),mlv (mR (X3 raw))]):=λh=>TH raw h;have ft:=Gd raw;have hlb:∀ m,m∈(clo raw).lems->Fits (2^13-64) m.v.q:=λm hm=>by obtain⟨i,_,hf⟩:=(Ge raw).1.z.lb m hm;exact hf.mono (vI (Gu i) (by decide))
 have ud:=PT raw;have p0:=(ft.fit ud).pair em;have p1:=((ft.take ((mR (X3 raw)).length/2)).fit ud).pair em;have p2:=λk=>((ft.bump hlb k).fit ud).pair em;clear ud;have hz:=(ft.w.sz16 (by decide) (by decide)).lems.sz;have hll:=ft.w.len;have hcl:=ft.n;have hk8:irem (w.toNat:Int) 8=((w.toNat%8:Nat):Int):=vQ (b:=8);have hq8:iquo (w.toNat:Int) 8=((w.toNat/8:Nat):Int):=pH (b:=8);have hw:w.toNat<256:=w.toNat_lt;have hs:=s44;have ho:=s32 1 (by decide) (by decide);rw[show ((1:Int):Rat)=1 from rfl] at ho;obtain⟨r1,hr1⟩:=ex (zI 1);have hr1z:r1.sz (2^31):=by rw[<-hr1];exact (zU fits_one).mono (by decide)
 have hr1q:r1.q=1:=by grind [z9]
 rw[hr1] at ho;clear hr1;unfold Scp.bump at p2;clear ft hlb;generalize clo raw=S at *;generalize mR (X3 raw)=CL at *;obtain⟨⟨⟨n,us,os⟩,⟨lo,hi',rows⟩,⟨ts,c⟩⟩,path,L⟩:=S;dsimp only [sv] at *;cbv;refine cA ca ?_;cbv;refine fL rfl ?_;cbv;refine zE (λe1=>?_) (λe1=>?_);{cbv;exact rA};have ccl':=ccl (by rw[zA] at e1;exact om);clear ccl;cbv;refine cA ccl' ?_;clear ca ccl';cbv;refine⟨vH (by decide),?_⟩;refine zE (λe2=>?_) (λe2=>?_)
 ·cbv;refine zE (λe3=>?_) (λe3=>?_)
  ·(have h8':0<L.length:=by rw[zA] at e3;exact om);clear p0 p1
   cbv;refine pO rD rfl rfl rfl rfl rfl rfl (wD y4 _) (z6 oM (by grind [zA])) rfl ?_;cbv;refine zL 9 (by cbv) ?_;cbv;obtain⟨K,hK,hKl⟩:∃ K:Nat,irem (nx .i64 (nx .u8 (iquo (w.toNat:Int) 8))) ((enc lc L).length:Int)=(K:Int)/\K<L.length:=by
    (have hna:nx .i64 (nx .u8 (iquo (w.toNat:Int) 8))=((w.toNat/8:Nat):Int):=by grind [nx,IntKind.wrap,IntKind.bits]);rw[hna,vQ,zA]
    exact⟨_,rfl,v8 _ h8'⟩
   (obtain⟨m,hm⟩:=zQ hKl;have hsz:=hz m (z8 hm);have ca:=hs m.v r1 (hsz.mono (by decide)) hr1z;rw[hr1q] at ca;have hP:=p2 K;rw[JG hm] at hP;have hix:0+(irem (nx .i64 (nx .u8 (iquo (w.toNat:Int) 8))) ((enc lc L).length:Int)).toNat=K:=by rw[hK];omega);have hle:(enc lc L).length=L.length:=zA lc L
   (clear p2 hs;refine⟨vH (by decide),vH (by rw[zA];exact om),yX (by grind) (by grind),?_⟩;refine zL 7 (by cbv) ?_;cbv;refine vO (l:=L) K hix hKl yR y4 (λt ht=>?_);obtain rfl:=qQ (hm.symm.trans ht);cbv;refine dA ho ?_;cbv;refine dA ca ?_;cbv;refine vO (l:=L) K hix hKl yR y4 (λt ht=>?_);obtain rfl:=qQ (hm.symm.trans ht);cbv;have g1:(((enc lc L).set (0+(irem (nx .i64 (nx .u8 (iquo (w.toNat:Int) 8))) ((enc lc L).length:Int)).toNat) (xD (lc (lL m)))).drop 0).take (enc lc L).length=enc lc (L.set K (lL m)):=by rw[hix,s3,wN,yW (by simp only[zA,KS];omega)]);obtain⟨R,E,k1,k2,k3⟩:=hP
   (have hfr:0+(enc lc L).length<=((enc lc L).set (0+(irem (nx .i64 (nx .u8 (iquo (w.toNat:Int) 8))) ((enc lc L).length:Int)).toNat) (xD (lc (lL m)))).length:=by grind);refine qO (.trans (.sel _ [1,7,8,64,65,66] [7,35] rfl) (.frz 35 rfl rfl (by cbv;repeat' first|exact trivial|exact z5 hfr|apply And.intro) (by cbv;repeat' first|exact trivial|exact z5 hfr|apply And.intro))) rfl (by exact⟨⟨lR,lR,lR,lR,lR,lR,lR,lR,lR,lR,lR,zR g1,trivial⟩,lR,lR,trivial⟩) k1 rfl ?_
   cbv;refine yP rfl (by exact⟨⟨lR,lR,lR,lR,lR,lR,lR,lR,lR,lR,lR,zR g1,trivial⟩,lR,lR,trivial⟩) k2 rfl ?_;cbv;refine wP rfl ?_;cbv;refine cA k3 ?_;cbv;exact rA
  {obtain⟨R,E,k1,k2,k3⟩:=p0;cbv;refine cA k1 ?_;cbv;refine cA k2 ?_;cbv;refine wP rfl ?_;cbv;refine cA k3 ?_;cbv;exact rA}
 ·cbv;refine zE (λe3=>?_) (λe3=>?_)
  ·(obtain⟨K,hK,hKl⟩:∃ K:Nat,CL.length/2=K/\K<=CL.length:=⟨_,rfl,mS _ _⟩;have hq2:nx .i64 (iquo ((enc mc CL).length:Int) 2)=(K:Int):=by rw[zA,show iquo (CL.length:Int) 2=((CL.length/2:Nat):Int) from pH (b:=2),hK];exact Zn oM oM);rw[hK] at p1;have g1:List.drop ((0:Int)).toNat (List.take (nx .i64 (iquo ((enc mc CL).length:Int) 2)).toNat (enc mc CL))=enc mc (CL.take K):=by rw[hq2];show List.take K (enc mc CL)=_;unfold enc;rw[Z5]
   (have so1:SlOk (λ_=>(0:Int)) (λ_=>nx .i64 (iquo ((enc mc CL).length:Int) 2)) (λ_=>(enc mc CL).length):=by rw[hq2];have e:(enc mc CL).length=CL.length:=zA _ _;exact vX (Int.le_refl _) (rO _) (by rw[e];exact Int.ofNat_le.2 hKl));obtain⟨R,E,k1,k2,k3⟩:=p1;clear p0 p2;cbv;refine⟨vH (by decide),so1,wD xI _,?_⟩;refine yP rfl (by exact⟨okA,lR,zR g1,trivial⟩) k1 rfl ?_;cbv;refine yP rfl (by exact⟨okA,lR,zR g1,trivial⟩) k2 rfl ?_;cbv;refine wP rfl ?_;cbv;refine cA k3 ?_;cbv;exact rA
  {obtain⟨R,E,k1,k2,k3⟩:=p0;cbv;refine cA k1 ?_;cbv;refine cA k2 ?_;cbv;refine wP rfl ?_;cbv;refine cA k3 ?_;cbv;exact rA}
end Go.Proofs.YtaeaffgjdcigoaaGreat
