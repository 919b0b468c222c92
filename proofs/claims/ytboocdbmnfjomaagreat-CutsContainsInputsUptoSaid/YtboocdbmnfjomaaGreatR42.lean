/- A part of the proof: CtI. -/
import Derived.Test.YtboocdbmnfjomaaGreatR41
import Derived.Test.YtboocdbmnfjomaaGreatR34
import Derived.Test.YtboocdbmnfjomaaGreatR31
import Derived.Test.YtboocdbmnfjomaaGreatR32
set_option linter.all false
namespace Go.Proofs.YtboocdbmnfjomaaGreat
open Go
set_option maxRecDepth 100000
set_option maxHeartbeats 4000000
def Mo (P:Prg)(X:List R)(hX:(X.length:Int)=P.v)(cv:zE 59 [pgv P] (zM true))(hl:P.rows.length<2^20) (ce:∀ (i:Nat) a,P.rows[i]?=some a->∃ (w:R) (sg:Int),zE 46 [av a,rlv X] (.tup [rv w,iV 0])/\zE 26 [rv w] (iV sg)/\0<=sg):zE 20 [pgv P,rlv X] (zM true):=by
 refine sF Tryz.f20 ?_;obtain⟨v,US,⟨ots,oc⟩⟩:=P;dsimp only at *;cbv;refine cA cv ?_;cbv;refine Zy rfl ?_;cbv;refine xF (by rw[zB];exact hX) ?_;cbv;refine zZ (σ:=Nat) (λi=>⟨[(1,rlv X),(2,.ptr 2 0),(5,iV i)],[(2,.box [iV v,alv US,tsv ots,zM oc.neg,nat oc.num,nat oc.den])]⟩) (λi=>i<=US.length) (λi=>US.length-i) 0 (xK _) (wkZ) ?_;intro i h1;cbv;refine zH (λh5=>?_) (λh5=>?_)
 ·(have hlt:i<US.length:=by rw[zB] at h5;exact om);obtain⟨a,hUi⟩:=zY hlt
  obtain⟨w,sg,ce1,cs1,cg1⟩:=ce i a hUi;clear ce;cbv;refine yT hUi vP qD ?_;cbv;refine cA ce1 ?_;cbv;refine wO rfl ?_;cbv;refine cA cs1 ?_;cbv;refine yE om ?_;cbv;exact⟨zF om om,i+1,om,om,wkZ⟩
 {cbv;exact rA}
def Hp {t:Scp}{x:FQry}(hq:t.q=x.q)(hx:x.small)(hp:Dsz 43 t.path)(hL:LB KK t.lems){l:List Mult}(h1:Msz 679650 l)(h2:l.length<=14):SumOk t l where
 fm m hm f hf:=(Gg hq hx hp hL hf).mono (by decide) (by decide)
 c:=h1.mono (by decide)
 pre i acc ha:=by
  (have:=KA (λr f hf=>Gg hq hx hp hL hf) (λm hm=>(h1.sz m (p5 hm)).fits (by decide)) zero_fl ha;have hl:(l.take i).length<=14:=by rw[vG];omega);have e:(2718660+679650+5)*(l.take i).length<=(2718660+679650+5)*14:=wL _ hl
  (have e2:(2:Nat)^26=67108864:=by decide);exact this.mono oM oM
def D8 (raw:List UInt8):zE 16 [sv (fdS raw).bounded] (zM true):=by have k:=Mp (fdS raw).bounded (eN raw) (λi m hm=>by obtain⟨g1,g2⟩:=(t6 raw).pf m (z8 hm);exact Hp (t:=(fdS raw).bounded.pre i) (Sa raw) (vD raw 0) (J4 raw) (λn hn=>(t6 raw).lb n (p5 hn)) g1 g2);rw[iQ raw] at k;exact k
def zA:A:=⟨[],R0⟩
def NY:fA F.zero=zA:=congrArg (A.mk []) vR
def zA_sz:zA.sz 1:=by rw[<-NY];exact⟨⟨by show 0<2^38;decide,λt ht=>absurd ht (by simp[fA,F.zero,tR])⟩,zX (xT (by decide))⟩
def NX (n:Int):zA.valid n=true:=by rw[<-NY];exact F.wf.valid ⟨Cn.nil,λt ht=>absurd ht (by simp[F.zero])⟩
structure PtC (raw:List UInt8) (X VV:List R):Prop where
 val:zE 19 [gv (fdS raw).bounded.q.g,rlv X] (.tup [rlv VV,iV 0])
 fea:zE 20 [pgv (cuP (fdS raw).bounded zA),rlv VV] (zM true)
 vio:zE 14 [sv (fdS raw).bounded,rlv VV] (wR [])
def Xl {val:Row->Rat}:∀ {L:List Row},(∀ r,r∈L->0<=val r)->l6 val L=[]
 |[],_=>rfl| r::L,h=>by have h1:=h r wZ;have:=Xl (L:=L) (λq hq=>h q (wJ _ hq));unfold l6 at *;rw[Kk,this,if_neg (by grind)];rfl
def nN (raw:List UInt8):(fdS raw).bounded.q.g.vars=(((fdY raw 0).1.g.n+(fdY raw 0).1.g.us.length:Nat):Int):=by show ((fdY raw 0).1.g.n:Int)+(((fdY raw 0).1.g.us.map fA).length:Nat)=_;rw[yN];omega
def ptC {raw:List UInt8}{l:List Rat}(hl:InpOk (fdY raw 0).1 l)(hm:Jf (fdY raw 0).1 (fdS raw).path l=true):∃ VV,PtC raw (l.map zI) VV:=by
 have hx:=vD raw 0;have hok:=nF raw 0;obtain⟨hP,hL,hF⟩:=BF hl hm;obtain⟨V,Q⟩:=F7 hx.g hok.us hl.len (m:=20) (by decide) (by decide) hl.fit;have hvl:(wV (fdY raw 0).1.g.us l).length=(fdY raw 0).1.g.n+(fdY raw 0).1.g.us.length:=by rw[sD,hl.len]
 have n2:=hx.g.n2;have u4:=hx.g.us;have hfit:∀ q,q∈wV (fdY raw 0).1.g.us l->Fits (2^24) q:=λq hq=>Q.fit (fdY raw 0).1.g.us.length q (by rw[Q.v9];exact hq);have hb:=Q4 raw true;have hv:=lM raw true;have e0:cuS raw true=(fdS raw).bounded:=rfl;rw[e0] at hb hv;have hfm:∀ r,r∈(fdS raw).bounded.all->∃ f,(fdS raw).bounded.fm r=some f/\f.fl 2718660 3000/\f.wf (((fdY raw 0).1.g.n+(fdY raw 0).1.g.us.length:Nat):Int)/\0<=f.at (xr (wV (fdY raw 0).1.g.us l)):=λr hr=>by obtain⟨f,hf⟩:=NM (s:=(fdS raw).bounded) (x:=(fdY raw 0).1) (Sa raw) hx hok r hr;exact⟨f,hf,A2 (b:=true) hf,Ed (Sa raw) hx hok r f hf,Uc hP hL hf⟩
 refine⟨(wV (fdY raw 0).1.g.us l).map zI,hF.val,?_,?_⟩
 ·(have hz:(cuP (fdS raw).bounded zA).sz (2^32):=⟨⟨by have:=hb.l;show ((fdS raw).bounded.all.map _).length<_;rw[yN];omega,λa ha=>by obtain⟨r,hr,rfl⟩:=y9.1 ha;exact (FE raw true r).mono (by decide)⟩,zA_sz.mono (by decide)⟩;have hpv:(cuP (fdS raw).bounded zA).valid=true:=by unfold Prg.valid;simp only[yS,decide_eq_true_eq,gH];refine⟨⟨⟨by show 0<=(fdS raw).bounded.q.g.vars;rw[nN];omega,by show (fdS raw).bounded.q.g.vars<=1280;rw[nN];omega,by have:=hb.l;show ((fdS raw).bounded.all.map _).length<=_;rw[yN];omega⟩,NX _⟩,λa ha=>?_⟩;obtain⟨r,hr,rfl⟩:=y9.1 ha;obtain⟨f,h1,h2,h3,h4⟩:=hfm r hr;rw[h1];show (fA f).valid (fdS raw).bounded.q.g.vars=true;rw[nN];exact h3.valid);have cv:=Lk _ hz;rw[hpv] at cv;refine Mo _ _ ?_ cv ?_ (λi a ha=>?_)
  {show _=(fdS raw).bounded.q.g.vars;rw[nN,yN,hvl]};{have:=hb.l;show ((fdS raw).bounded.all.map _).length<_;rw[yN];omega};{obtain⟨r,hr,rfl⟩:=y9.1 (z8 ha);obtain⟨f,h1,h2,h3,h4⟩:=hfm r hr;rw[h1];obtain⟨y,z,g1,g2,g3⟩:=RU hl h3 h2 (by decide) h4;exact⟨y,z,g1,g2,g3⟩}
 {have k:=Bg (fdS raw).bounded ((wV (fdY raw 0).1.g.us l).map zI) (λr=>(((fdS raw).bounded.fm r).getD F.zero).at (xr (wV (fdY raw 0).1.g.us l))) [] hb hv (by rw[nN,yN,hvl]) (λr hr=>?_) ?_ ?_;{exact k};{obtain⟨f,h1,h2,h3,h4⟩:=hfm r hr;rw[h1];have hsh:=h3.short;have hf7:f.fl (2^26) 7:=⟨λt ht=>(h2.t t ht).mono (by decide),h2.c.mono (by decide),by omega⟩;rw[<-hvl] at h3;exact PY f _ hf7 h3 hfit (by decide) (by decide) (by decide) (by decide) oM};{rw[Xl (λr hr=>by obtain⟨f,h1,h2,h3,h4⟩:=hfm r hr;show 0<=((((fdS raw).bounded.fm r)).getD F.zero).at _;rw[h1];exact h4)];exact CT [] (by decide)};{rw[Xl (λr hr=>by obtain⟨f,h1,h2,h3,h4⟩:=hfm r hr;show 0<=((((fdS raw).bounded.fm r)).getD F.zero).at _;rw[h1];exact h4)]}}
def Mv (raw at':List UInt8)(hr:raw.length<=2^20)(ha:at'.length<=2^20):zE 5 [u8l raw,u8l at'] (zM true):=by
 refine sF Tryz.f5 ?_;have ca:=P5;have cP:zE 8 [u8l raw,zM true] (sv (fdS raw).bounded):=KT raw (xQ hr (by decide)) true;have hx:=vD raw 0;have hok:=nF raw 0;have hio:=M3 raw at';have csc:=D8 raw;have c1:=HK (cuS raw true) zA (Q4 raw true) (zA_sz.mono (by decide)) (lM raw true) (NX _);have c1:zE 9 [sv (fdS raw).bounded,av zA] (.tup [pgv (cuP (fdS raw).bounded zA),wR (fdS raw).bounded.all,iV 0]):=c1;have cins:zE 17 [rgv (fdS raw).bounded.q.r,u8l at'] (rlv ((rE at' 0 (fdY raw 0).1.r.bs).map zI)):=RG (fdY raw 0).1.r at' hx.r (by have:=hx.g.n2;omega) oM;have cmem:=RD (fdY raw 0).1 (fdS raw).path (fdS raw).bounded.lems (rE at' 0 (fdY raw 0).1.r.bs) hx hok ((J4 raw).mono (by decide)) hio;have hsv:sv ⟨(fdY raw 0).1.q,(fdS raw).path,(fdS raw).bounded.lems⟩=sv (fdS raw).bounded:=rfl;rw[hsv] at cmem;have facts:Jf (fdY raw 0).1 (fdS raw).path (rE at' 0 (fdY raw 0).1.r.bs)=true->∃ VV,zE 19 [gv (fdS raw).bounded.q.g,rlv ((rE at' 0 (fdY raw 0).1.r.bs).map zI)] (.tup [rlv VV,iV 0]) /\
   zE 20 [pgv (cuP (fdS raw).bounded zA),rlv VV] (zM true)/\zE 14 [sv (fdS raw).bounded,rlv VV] (wR []):=λh=>by
  obtain⟨VV,k1,k2,k3⟩:=ptC hio h;exact⟨VV,k1,k2,k3⟩
 clear hx hok hio hsv;generalize Jf (fdY raw 0).1 (fdS raw).path (rE at' 0 (fdY raw 0).1.r.bs)=mb at *;generalize cuP (fdS raw).bounded zA=P at *;generalize (fdS raw).bounded.all=L at *;generalize (fdS raw).bounded=Bd at *;generalize (rE at' 0 (fdY raw 0).1.r.bs).map zI=X at *;obtain⟨⟨⟨n,us,os⟩,⟨lo,hi',rows⟩,⟨ts,c⟩⟩,path,lems⟩:=Bd;obtain⟨v,rs,⟨ots,oc⟩⟩:=P
 try dsimp only at cP csc c1
 try dsimp only at cins
 try dsimp only at cmem facts
 cbv;refine cA ca ?_;cbv;refine s4 rfl ?_;cbv;refine xE rfl okA cP rfl ?_;cbv;refine zU (λh4=>?_) (λh4=>?_);{cbv;exact rA};cbv;refine zU (λh5=>?_) (λh5=>?_);{cbv;exact rA};cbv;refine cA csc ?_;cbv;refine s4 rfl ?_;cbv;refine xE rfl (by repeat' first|exact trivial|exact lR|exact zN rfl|exact xD rfl|apply And.intro) c1 rfl ?_;cbv;refine cA cins ?_;cbv;refine xF rfl ?_;cbv;refine cA cmem ?_;cbv;refine zS (λe1=>?_) (λe1=>?_)
 rotate_left
 {cbv;exact rA};obtain⟨VV,k1,k2,k3⟩:=facts e1;clear facts ca cP csc c1 cins cmem;cbv;refine cA k1 ?_;cbv;refine wO rfl ?_;cbv;refine cA k2 ?_;cbv;refine Zy rfl ?_;cbv;refine cA k3 ?_;cbv
 (refine rC ?_;cbv)
 exact z4 (by rfl)
end Go.Proofs.YtboocdbmnfjomaaGreat
