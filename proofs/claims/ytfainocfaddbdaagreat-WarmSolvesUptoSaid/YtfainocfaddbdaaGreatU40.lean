/- A part of the proof: FmH, LsD, WrA, WrB, WrC, WrD, WsA. -/
import Derived.Test.YtfainocfaddbdaaGreatU39
import Derived.Test.YtfainocfaddbdaaGreatU35
import Derived.Test.YtfainocfaddbdaaGreatU37
import Derived.Test.YtfainocfaddbdaaGreatU34
set_option linter.all false
namespace Go.Proofs.YtfainocfaddbdaaGreat
open Go
set_option maxRecDepth 100000
set_option maxHeartbeats 8000000
theorem zFW {k:Nat}(hk:1<=k):Fits k (-1:Rat):=(aK (aL (z:=1) (k:=1) (by unfold B;decide) (zV 1))).mono hk
theorem zSH {f:F}{n k m:Nat}(hc:Cn f.ts)(hf:f.fl k m)(hk:1<=k):∀ q,q∈cfs f n->Fits k q:=fun q hq=>by
 unfold cfs at hq;rcases wQ.1 hq with hq|hq;{obtain⟨i,_,rfl⟩:=yS.1 hq;exact zM8 hc hf.t hk _}
 ·(have:q=f.c:=by simpa using hq);rw[this];exact hf.c
def cb (b:Bool):List PV:=[.bool (fun _=>b)]
theorem el_b {l:List Bool}{i i':Nat}{x:Bool}{K:List PV->Prop}(h:l[i]?=some x)(hi:i'=i)(hK:K [.bool (fun _=>x)]):ElOk 1 (fun _=>enc cb l) (fun _=>i') K :=
 ⟨⟨cb x,rfl,rfl,by show (enc cb l)[i']?=_;rw[hi];unfold enc;rw[vU,h];rfl,hK⟩⟩
theorem yAR {α:Type}{p:α->List PV}{n:Nat}{els:List (List D)}{l:List α}{i i':Nat}{a:α}{K:List PV->Prop}(he:els=enc p l)(h:l[i]?=some a)(hi:i'=i)(hf:∀ a,yV jN (p a)=true)(hn:∀ a,(p a).length=n)(hK:K (p a)):ElOk n (fun _=>els) (fun _=>i') K :=
 zUH i hi (p a) (hf a) (hn a) (by rw[he];unfold enc;rw[vU,h];rfl) hK
theorem zQJ {l:List FR}{done:List Bool}{vs:List Nat}{b:Int}{n:Nat}(h:∀ v,v∈vs->v<n)(hb:b=-1\/∃ u:Nat,u<n/\b=u):kQ l done vs b=-1\/∃ u:Nat,u<n/\kQ l done vs b=u:=by obtain⟨h1,_⟩:=cP (l:=l) (done:=done) (vs:=vs) (b:=b);rcases h1 with h1|⟨v,a,_,c⟩;{rw[h1];exact hb};{exact .inr ⟨v,h v a,c⟩}
theorem yAC {n k m:Nat}{fs:List F}{ob:F}(hn:n<=40)(hl:fs.length<=5000)(hr:∀ f,f∈fs->f.fl k m/\f.wf (n:Int))(ho:ob.fl k m/\ob.wf (n:Int))(hk1:1<=k)(hk:k<=2^20)(hm:m<=2^20):zG 59 [pgv (prg n fs ob)] (.tup [.int .i64 (fun _=>(((sR n fs ob).1:Nat):Int)),rv (zJ (sR n fs ob).2)]):=by
 
 have htw:((F.var n).sub ob).wf ((n+1:Nat):Int):=(F.wf.var oM oM).sub (ho.2.mono oM);have htf:((F.var n).sub ob).fl (1+k+2) (1+m):=(zSS (n:Int)).sub ho.1;have c1:zG 103 [.int .i64 (fun _=>(n:Int))] (av (fA (F.var n))):=zYA (n:Int);have c2:zG 33 [av (fA (F.var n)),av (fA ob)] (av (fA ((F.var n).sub ob))):=zWY (F.wf.var (n:=((n+1:Nat):Int)) (show (0:Int)<=n by omega) (show (n:Int)<((n+1:Nat):Int) by omega)).cn ho.2.cn (zSS (n:Int)) ho.1 (by decide) oM (by decide) oM;have c3:=s32 (-1) (by decide) (by decide);have e3:((-1:Int):Rat)=(-1:Rat):=rfl;rw[e3] at c3;have c4:zG 27 [av (fA ((F.var n).sub ob)),rv (zJ (-1))] (av (fA (((F.var n).sub ob).scale (-1)))):=zN1 (q:=-1) htf (zFW (zV 1)) oM oM (by decide);have hAF:∀ f,f∈iI n fs ob->f.wf ((n+1:Nat):Int)/\f.fl (k+6) (m+1):=fun f hf=>by rcases z9.1 hf with rfl|hf;{exact⟨htw,htf.mono oM oM⟩};{rcases z9.1 hf with rfl|hf;{exact⟨htw.scale,(htf.scale (zFW (zV 1))).mono oM oM⟩};{exact⟨(hr f hf).2.mono oM,(hr f hf).1.mono oM oM⟩}}
 have cd:∀ (i:Nat) f,(iI n fs ob)[i]?=some f->zG 104 [av (fA f),.int .i64 (fun _=>((n+1:Nat):Int))] (.tup [zlv (sW f (n+1)).1,.bool (fun _=>(sW f (n+1)).2)]):=fun i f hf=>by obtain⟨h1,h2⟩:=hAF f (zZ hf);exact yAE f (n+1) h1.cn (by have:=h2.len;omega) oM fun q hq=>(zSH h1.cn h2 oM q hq).mono oM
 have hAl:(iI n fs ob).map fA=fA ((F.var n).sub ob)::fA (((F.var n).sub ob).scale (-1))::fs.map fA:=rfl;have hAn:(iI n fs ob).length=fs.length+2:=rfl;have hspec:sR n fs ob=(if 62<fs.length+2 then (0,0) else (match rY (n+1) ((iI n fs ob).drop 0) 0 [] with
  |none=>(0,0)
  |some l=>(match oC n n (List.replicate n false) l with
   |none=>(0,0)| some m=>kO n m none none))):=rfl
 have hlok:∀ l,rY (n+1) (iI n fs ob) 0 []=some l->fs.length+2<=62->LOk l (n+2)/\l.length=fs.length+2:=fun l h1 h2=>zQA h1 h2;have hdr:(iI n fs ob).drop 0=iI n fs ob:=rfl;obtain⟨AF,hAFe⟩:∃ AF,iI n fs ob=AF:=⟨_,rfl⟩;rw[hAFe] at hAl hAn hspec cd hlok hdr;obtain⟨⟨S0,z0⟩,hS⟩:∃ S,sR n fs ob=S:=⟨_,rfl⟩;rw[hS] at hspec;rw[hS];show zG _ [.agg [.int .i64 (fun _=>(n:Int)),alv (fs.map fA),tsv (fA ob).ts,.bool (fun _=>(fA ob).c.neg),nat (fA ob).c.num,nat (fA ob).c.den]] (.tup [.int .i64 (fun _=>(S0:Int)),rv (zJ z0)]);obtain⟨V,hV⟩:∃ a,fA (F.var n)=a:=⟨_,rfl⟩;obtain⟨O,hO⟩:∃ a,fA ob=a:=⟨_,rfl⟩;obtain⟨T,hT⟩:∃ a,fA ((F.var n).sub ob)=a:=⟨_,rfl⟩;obtain⟨T2,hT2⟩:∃ a,fA (((F.var n).sub ob).scale (-1))=a:=⟨_,rfl⟩;obtain⟨M1,hM1⟩:∃ a,zJ (-1)=a:=⟨_,rfl⟩;obtain⟨US,hUS⟩:∃ a,fs.map fA=a:=⟨_,rfl⟩;obtain⟨Z,hZ⟩:∃ a,zJ z0=a:=⟨_,rfl⟩;have hUl:US.length=fs.length:=by rw[<-hUS,y8]
 rw[hV] at c1 c2;rw[hO,hT] at c2;rw[hM1] at c3 c4;rw[hT,hT2] at c4;rw[hT,hT2,hUS] at hAl;have hz:z0=0->Z=⟨false,[],[]⟩:=fun e=>by rw[<-hZ,e];exact mV
 rw[hO,hUS,hZ];clear hAFe hAF htw htf hr ho hV hO hT hT2 hM1 hUS hS e3;obtain⟨ots,oc⟩:=O;obtain⟨vts,vc⟩:=V;obtain⟨tts,tcc⟩:=T;obtain⟨t2s,t2c⟩:=T2;refine sF Tryz.f59 ?_;cbv;refine oG 6 (by cbv) (by cbv) ?_;cbv;refine dA c1 ?_;cbv;refine dA c2 ?_;cbv;clear c1 c2;refine pP (σ:=Unit) (fun _=>⟨[(3,.ptr 3 0),(4,.int .i64 (fun _=>(n:Int))),(6,.osl 30 4 (fun _=>0) (fun _=>US.length+2))],[(3,.box [.ff,.nil,.nil]),(30,.arr 4 (fun _=>enc ac ((⟨tts,tcc⟩:A)::⟨t2s,t2c⟩::US)))]⟩) (fun _=>True) (.refl _) (by cbv) ?_ ?_
 ·cbv
  repeat' first
   |exact trivial
   |(refine wL rfl okA c3 rfl ?_;cbv)
   |(refine wL rfl okA c4 rfl ?_;cbv)
   |(refine zWC (by cbv) ?_;cbv)
   |(refine vW zX1 rfl rfl rfl (by rfl) rfl (pO dG _) (yB (by exact dE _) (by show ((2+(enc ac US).length:Nat):Int)*80<=_;rw[zK];(try dsimp only [zI] at *);omega)) rfl ?_;cbv)
   |exact⟨(),trivial,.le (by cbv;repeat' first|exact trivial|exact lR|exact zU rfl (by simp[yI,zK];omega)|apply zN) (by cbv;exact⟨okA,zB rfl,trivial⟩) rfl⟩
   |apply zN
 intro _ _;clear c3 c4;have hAl2:((⟨tts,tcc⟩:A)::⟨t2s,t2c⟩::US).length=fs.length+2:=by simp[hUl]
 rw[<-hAl] at hAl2;rw[<-hAl];have hget:∀ (i:Nat) f,AF[i]?=some f->(AF.map fA)[i]?=some (fA f):=fun i f h=>by rw[vU,h];rfl
 obtain⟨AL,hALe⟩:∃ AL,AF.map fA=AL:=⟨_,rfl⟩;rw[hALe] at hAl2 hget;rw[hALe];have hr0:∀ {a b:Nat×Rat},a=b->(S0,z0)=a->(S0=b.1/\z0=b.2):=fun e h=>by rw[<-e,<-h];exact⟨rfl,rfl⟩
 clear hAl hALe;cbv;refine zD (fun e0=>?_) (fun e0=>?_)
 ·have hbig:62<fs.length+2:=om;rw[if_pos hbig] at hspec;have s1:S0=0:=congrArg Prod.fst hspec;have s2:=hz (congrArg Prod.snd hspec);subst s1 s2;cbv
  (refine rC ?_;cbv)
  exact⟨zE rfl,okA,trivial⟩
 have hsm:fs.length+2<=62:=om;rw[if_neg oM] at hspec;have h62:AF.length<=62:=by omega
 clear e0;cbv;refine zX (σ:=Nat×List FR) (fun s=>⟨[(3,.ptr 3 0),(4,.int .i64 (fun _=>(n:Int))),(6,.osl 30 4 (fun _=>0) (fun _=>US.length+2)),(7,.osl 501 2 (fun _=>0) (fun _=>s.2.length)),(8,.int .i64 (fun _=>(s.1:Int)))],[(3,.box [.ff,.nil,.nil]),(30,.arr 4 (fun _=>enc ac AL)),(501,.arr 2 (fun _=>enc frc s.2))]⟩)
  (fun s=>s.1<=AF.length/\s.2.length=s.1/\rY (n+1) (AF.drop s.1) s.1 s.2=rY (n+1) (AF.drop 0) 0 []) (fun s=>AF.length-s.1) (0,[]) ⟨wH _,rfl,rfl⟩ (.trans (.adoptT 501 2 7 rfl rfl) (wkZ)) ?_
 intro s hs;obtain⟨i,acc⟩:=s;obtain⟨h1,h2,h3⟩:=hs;dsimp only at h1 h2 h3;cbv;refine zD (fun h5=>?_) (fun h5=>?_)
 ·(have hlt:i<AF.length:=om;obtain⟨f,hf⟩:=zO hlt;have cdf:=cd i f hf;have hgf:=hget i f hf;rw[wK hf,rY] at h3;obtain⟨a,ha⟩:∃ a,fA f=a:=⟨_,rfl⟩;rw[ha] at cdf hgf;obtain⟨⟨D1,D2⟩,hD⟩:∃ D,sW f (n+1)=D:=⟨_,rfl⟩;rw[hD] at cdf h3;dsimp only at cdf h3;have hpw:i<62:=by omega);have hsh:ishl .u64 1 (i:Int)=((2^i:Nat):Int):=by have:=aI (a:=1) (k:=i) oM (by rw[mS];exact gN (gB (by decide) hpw) (by decide));rw[mS] at this;exact this
  obtain⟨P2,hP2⟩:∃ P,2^i=P:=⟨_,rfl⟩;rw[hP2] at h3 hsh;clear hP2 hD ha;obtain⟨ats,ac0⟩:=a;cbv;refine⟨zQ om om,yAR rfl hgf om gU dG ?_⟩;cbv;refine⟨zC om om,wL rfl (by exact⟨okA,zE om,trivial⟩) cdf rfl ?_⟩;cbv;refine z6 (fun e=>?_) (fun e=>?_)
  rotate_left
  ·rw[if_neg (by rw[e];decide)] at h3;rw[<-h3] at hspec;have s1:S0=0:=congrArg Prod.fst hspec;have s2:=hz (congrArg Prod.snd hspec);subst s1 s2;cbv
   (refine rC ?_;cbv)
   exact⟨zE rfl,okA,trivial⟩
  ·(rw[if_pos e] at h3;have hel:enc frc acc++[[D.sl (enc cz D1),D.int .u64 (ishl .u64 1 (i:Int))]]=enc frc (acc++[⟨D1,P2⟩]):=by rw[hsh];exact zAO acc ⟨D1,P2⟩);cbv
   refine⟨v9 om,?_⟩;cbv;refine aO tyFr ?_;cbv;exact⟨zC om om,(i+1,acc++[⟨D1,P2⟩]),⟨om,by show (acc++[_]).length=i+1;rw[wP,h2];rfl,h3⟩,om,.le (by cbv;repeat' first|exact trivial|exact lR|exact zE om|exact zU rfl (by simp[zK,yI])|apply zN) (by cbv;exact⟨okA,zB rfl,zB hel,trivial⟩) rfl⟩
 have hi:i=AF.length:=om;rw[hi,vG,rY] at h3;rw[hdr] at h3 hspec;rw[<-h3] at hspec;dsimp only at hspec;obtain⟨hlk,hll⟩:=hlok acc h3.symm hsm;clear h3 h2 h1 h5 hlok hget cd hdr hi;have hlen62:acc.length<=62:=by omega
 have hb0:List.replicate (n:Int).toNat (x6 [PV.ff])=enc cb (List.replicate n false):=by rw[show (n:Int).toNat=n by omega];unfold enc;rw[zFA];rfl
 obtain⟨KK,hKK⟩:∃ K:Nat->Nat,∀ i,K i=62+20000*i:=⟨_,fun _=>rfl⟩;have hK0:acc.length<=KK 0:=by rw[hKK];omega
 have hK1:∀ i,KK (i+1)=KK i+20000:=fun i=>by rw[hKK,hKK];omega
 have hKm:∀ i,i<=40->KK i<=1000000:=fun i hi=>by rw[hKK];omega
 clear hKK;have hE0:∃ E,oC n n (List.replicate n false) acc=E:=⟨_,rfl⟩;obtain⟨E,hE⟩:=hE0;rw[hE] at hspec;cbv;refine⟨yB om om,vF om om,?_⟩;refine zX (σ:=Nat×List Bool×List FR) (fun s=>⟨[(3,.ptr 3 0),(4,.int .i64 (fun _=>(n:Int))),(7,frv s.2.2),(11,.osl 62 1 (fun _=>0) (fun _=>n)),(12,.int .i64 (fun _=>((s.1+1:Nat):Int)))],[(3,.box [.ff,.nil,.nil]),(62,.arr 1 (fun _=>enc cb s.2.1))]⟩)
  (fun s=>s.1<=n/\oC n (n-s.1) s.2.1 s.2.2=E/\LOk s.2.2 (n+2)/\s.2.2.length<=KK s.1/\∃ Es,DoneE n s.2.1 Es/\Es.length=s.1) (fun s=>n-s.1) (0,List.replicate n false,acc) ⟨wH _,hE,hlk,hK0,[],DoneE.zero,rfl⟩
  (.trans (.frz 501 rfl rfl (by cbv;repeat' first|exact trivial|exact yG (by simp[zK])|apply zN) (by cbv;repeat' first|exact trivial|exact yG (by simp[zK])|apply zN)) (.le (by cbv;repeat' first|exact trivial|exact lR|exact zU rfl om|exact zE om|exact zY (by rw[uS,yN (by rw[zK];exact zV _)])|apply zN) (by cbv;exact⟨okA,zB hb0,trivial⟩) rfl)) ?_
 clear hE hlk hK0 hb0 hlen62 hll;intro s hs;obtain⟨q,done,L⟩:=s;obtain⟨h1,h2,h3,h4,Es,h6,h7⟩:=hs;dsimp only at h1 h2 h3 h4 h6;have hdl:=h6.len;cbv;refine zD (fun h5=>?_) (fun h5=>?_)
 ·(have hqn:q<n:=om;have hkm:=hKm q oM;have hf:n-q=(n-(q+1))+1:=by omega);rw[hf,oC] at h2
  (have hbst:=h6.open oM;obtain⟨b1,b2⟩:=cP (l:=L) (done:=done) (vs:=List.range n) (b:=-1);have b3:=b2 (by decide) hbst;have hlt:=zQJ (l:=L) (done:=done) (vs:=List.range n) (b:=-1) (n:=n) (fun v hv=>wZ.1 hv) (.inl rfl);obtain⟨Bv,hBd,hBn,hBeq⟩:∃ v,done.getD v false=false/\v<n/\kQ L done (List.range n) (-1)=(v:Int):=by rcases b1 with b1|⟨v,a,b,c⟩;{omega};{exact⟨v,b,wZ.1 a,c⟩});rw[hBeq,xN] at h2;have hBd0:kQ L done ((List.range n).drop 0) (-1)=(Bv:Int):=hBeq;have cpr:∀ u,u<n->zG 105 [frv L,.int .i64 (fun _=>(u:Int))] (.int .i64 (fun _=>((prs L u:Nat):Int))):=fun u hu=>yAB L u (n+2) h3 oM;have hprs:∀ u:Nat,prs L u<=1048576*1048576:=fun u=>by have:=h3.len;unfold prs;exact s8 (vS (zBO _ _) this) (vS (zBO _ _) this)
  clear b1 b2 b3 hlt hBeq hbst;cbv;refine zX (σ:=Nat×Int) (fun s=>⟨[(3,.ptr 3 0),(4,.int .i64 (fun _=>(n:Int))),(7,frv L),(11,.osl 62 1 (fun _=>0) (fun _=>n)),(12,.int .i64 (fun _=>((q+1:Nat):Int))),(13,.int .i64 (fun _=>s.2)),(14,.int .i64 (fun _=>(s.1:Int)))],[(3,.box [.ff,.nil,.nil]),(62,.arr 1 (fun _=>enc cb done))]⟩)
   (fun s=>s.1<=n/\kQ L done ((List.range n).drop s.1) s.2=(Bv:Int)/\(s.2=-1\/∃ u:Nat,u<n/\s.2=u)) (fun s=>n-s.1) (0,-1) ⟨wH _,hBd0,.inl rfl⟩ (wkZ) ?_
  intro s hs;obtain⟨v,b⟩:=s;obtain⟨g1,g2,g3⟩:=hs;dsimp only at g1 g2 g3;cbv;refine zD (fun h5=>?_) (fun h5=>?_)
  ·(have hv:v<n:=om;rw[wK (x:=v) (by rw[zLF hv]),kQ] at g2;have hdv:done[v]?=some (done.getD v false):=yR oM;obtain⟨dv,hdv'⟩:∃ d,done.getD v false=d:=⟨_,rfl⟩;rw[hdv'] at hdv g2;have hskip:¬(dv=false/\(b<0\/prs L v<prs L b.toNat))->kQ L done ((List.range n).drop (v+1)) b=(Bv:Int):=fun e=>by rw[if_neg e] at g2;exact g2);have htake:(dv=false/\(b<0\/prs L v<prs L b.toNat))->kQ L done ((List.range n).drop (v+1)) (v:Int)=(Bv:Int):=fun e=>by rw[if_pos e] at g2;exact g2
   (have hcv:=cpr v hv;have hcb:¬b<0->∃ u:Nat,b=u/\u<n/\zG 105 [frv L,.int .i64 (fun _=>b)] (.int .i64 (fun _=>((prs L b.toNat:Nat):Int))):=fun e=>by rcases g3 with g3|⟨u,g3,g4⟩;{omega};{subst g4;exact⟨u,rfl,g3,cpr u g3⟩});obtain⟨pv,hpv⟩:∃ d,prs L v=d:=⟨_,rfl⟩;obtain⟨pb,hpb⟩:∃ d,prs L b.toNat=d:=⟨_,rfl⟩;rw[hpv] at hskip htake hcv;rw[hpb] at hskip htake hcb;clear g2 hpv hpb hBd0 cpr hprs;cbv;refine⟨zQ om om,el_b hdv om ?_⟩;cbv;refine xK (fun e1=>?_) (fun e1=>?_);{have hno:=hskip (fun e=>by rw[e1] at e;cases e.1);cbv;exact⟨zC om om,(v+1,b),⟨om,hno,g3⟩,om,wkZ⟩};cbv;refine yD (fun e2=>?_) (fun e2=>?_);{have hyes:=htake ⟨e1,.inl om⟩;cbv;exact⟨zC om om,(v+1,(v:Int)),⟨om,hyes,.inr ⟨v,hv,rfl⟩⟩,om,wkZ⟩};obtain⟨u,hu,hun,hcu⟩:=hcb om;cbv;refine cA hcv ?_;cbv;refine cA hcu ?_;cbv;refine zD (fun e3=>?_) (fun e3=>?_);{have hyes:=htake ⟨e1,.inr om⟩;cbv;exact⟨zC om om,(v+1,(v:Int)),⟨om,hyes,.inr ⟨v,hv,rfl⟩⟩,om,wkZ⟩}
   ·have hno:=hskip (fun e=>by
     rcases e.2 with e|e;{exact e2 om}
     ·exact e3 om)
    cbv;exact⟨zC om om,(v+1,b),⟨om,hno,g3⟩,om,wkZ⟩
  ·(have hv:v=n:=om;rw[hv,d5 (by simp),kQ] at g2;subst g2;have hcB:=cpr Bv hBn;have hcE:=yAD L Bv (q+1) (n+2) h3 oM oM oM;have hpB:=hprs Bv;have hstep:∀ m,elS L Bv (q+1)=some m->¬20000<prs L Bv->LOk m (n+2)/\m.length<=KK (q+1):=fun m hm hp=>by have:=zV4 h3 hm oM;exact⟨this.1,by rw[hK1];omega⟩);have hdS:=h6.step hBn hBd;have hnk:n-(n-(q+1))=q+1:=Nat.sub_sub_self (Nat.succ_le_of_lt hqn);rw[hnk] at h2;unfold elR at hcE;obtain⟨pB,hpB'⟩:∃ p,prs L Bv=p:=⟨_,rfl⟩;rw[hpB'] at hcB hstep h2 hpB;obtain⟨R,hR⟩:∃ R,elS L Bv (q+1)=R:=⟨_,rfl⟩;rw[hR] at hcE hstep h2;clear hpB' hR cpr hprs hBd0 g1 g3 hv h3 h4 hBd;cbv;refine cA hcB ?_;cbv;refine zD (fun e=>?_) (fun e=>?_)
   ·have hbig:20000<pB:=om;rw[if_pos hbig] at h2;rw[<-h2] at hspec;have s1:S0=0:=congrArg Prod.fst hspec;have s2:=hz (congrArg Prod.snd hspec);subst s1 s2;cbv
    (refine rC ?_;cbv)
    exact⟨zE rfl,okA,trivial⟩
   have hsm2:¬20000<pB:=om;rw[if_neg hsm2] at h2;cases R with
   |none =>
    dsimp only at h2 hcE;rw[<-h2] at hspec;have s1:S0=0:=congrArg Prod.fst hspec;have s2:=hz (congrArg Prod.snd hspec);subst s1 s2;cbv;refine cA hcE ?_;cbv;refine sX rfl ?_;cbv
    (refine rC ?_;cbv)
    exact⟨zE rfl,okA,trivial⟩
   |some m =>
    dsimp only at h2 hcE;obtain⟨k1,k2⟩:=hstep m rfl hsm2;obtain⟨x,hx⟩:=zO (show Bv<done.length by omega);clear hstep;cbv;refine cA hcE ?_;cbv;refine zTS rfl ?_;cbv;refine⟨zQ om om,el_b hx om ?_⟩;cbv;exact⟨zC om om,(q+1,done.set Bv true,m),⟨om,h2,k1,k2,Bv::Es,hdS,by rw[x7,h7]⟩,om,.le okZ (by cbv;exact⟨okA,zB (by show (enc cb done).set (0+Bv) _=_;rw[xA];exact zC0 cb done Bv true),trivial⟩) rfl⟩
 ·(have hq:q=n:=om;have h2':some L=E:=by rw[<-h2,hq,dM];rfl);rw[<-h2'] at hspec
  dsimp only at hspec;have cen:=zYG L n h3 oM;have s1:S0=(kO n L none none).1:=congrArg Prod.fst hspec;have s2:z0=(kO n L none none).2:=congrArg Prod.snd hspec;rw[<-s1,<-s2,hZ] at cen;clear s1 s2 hspec h2 h2' h3;cbv;refine cA cen ?_;cbv
  (refine rC ?_;cbv)
  exact okA
def Prg.few (P:Prg):Bool:=P.small&&decide (P.v<=3)&&decide ((P.rows.length:Int)<=7)
theorem zYD (P:Prg)(hP:P.sz (2^32)):zG 19 [pgv P] (.bool (fun _=>P.few)):=by
 refine sF Tryz.f19 ?_;have cs:=yAA P hP;generalize hr:P.few=r;have hr0:r=(P.small&&decide (P.v<=3)&&decide ((P.rows.length:Int)<=7)):=hr.symm;generalize P.small=ps at *
 obtain⟨n,us,ob⟩:=P;obtain⟨ots,oc⟩:=ob;dsimp only at hr0;clear hr hP;cbv;refine cA cs ?_;cbv;refine xK (fun e1=>?_) (fun e1=>?_)
 rotate_left
 ·cbv
  (refine rC ?_;cbv)
  exact z5 (by rw[hr0,e1];rfl)
 rw[e1,wM] at hr0;cbv;refine yD (fun e2=>?_) (fun e2=>?_)
 rotate_left
 ·cbv
  (refine rC ?_;cbv)
  exact z5 (by rw[hr0,decide_eq_false e2];rfl)
 rw[decide_eq_true e2,wM] at hr0;cbv
 (refine rC ?_;cbv)
 exact yX (by rw[hr0];exact decide_eq_decide.2 (by rw[zK]))
theorem zYE {v k m:Nat}{fs:List F}{ob:F}{s:SolR}(hv:v<=40)(hl:fs.length<=5000)(hr:∀ f,f∈fs->f.fl k m/\f.wf (v:Int))(ho:ob.fl k m/\ob.wf (v:Int))(hk1:1<=k)(hk:k<=2^20)(hm:m<=2^20) (h:SolOk v (fs.map (lnS v)) (lnS v ob) s) (hf:Fits (2^30) s.val):zG 21 [pgv (prg v fs ob),slv s] (.bool (fun _=>true)):=by
 have cl:=yAC (n:=v) hv hl hr ho hk1 hk hm;have hok:(sR v fs ob).1≠0->sR v fs ob=(s.st,s.val):=zRY (fun f hf=>(hr f hf).2) ho.2 h;have cm:=oO s.val hf;obtain⟨⟨S0,z0⟩,hS⟩:∃ S,sR v fs ob=S:=⟨_,rfl⟩;rw[hS] at cl hok;dsimp only at cl hok;clear hr ho h hS;refine sF Tryz.f21 ?_;show wp _ ⟨tJ 0 [.agg [.int .i64 (fun _=>(v:Int)),.sl (fun _=>enc ac (fs.map fA)),tsv (fA ob).ts,.bool (fun _=>(fA ob).c.neg),nat (fA ob).c.num,nat (fA ob).c.den],slv s],_⟩ _;have cl':zG 59 [.agg [.int .i64 (fun _=>(v:Int)),alv (fs.map fA),tsv (fA ob).ts,.bool (fun _=>(fA ob).c.neg),nat (fA ob).c.num,nat (fA ob).c.den]] (.tup [.int .i64 (fun _=>(S0:Int)),rv (zJ z0)]):=cl;clear cl;obtain⟨US,hUS⟩:∃ US,fs.map fA=US:=⟨_,rfl⟩;obtain⟨O,hO⟩:∃ a,fA ob=a:=⟨_,rfl⟩;obtain⟨st,val,pt,du,ry,bas,pv⟩:=s;dsimp only at *
 have hzz:S0≠0->z0=val/\S0=st:=fun e=>by have:=hok e;exact⟨congrArg Prod.snd this,congrArg Prod.fst this⟩
 obtain⟨Z,hZ⟩:∃ a,zJ val=a:=⟨_,rfl⟩;obtain⟨Z0,hZ0⟩:∃ a,zJ z0=a:=⟨_,rfl⟩;have hzz2:S0≠0->Z0=Z/\S0=st:=fun e=>⟨by rw[<-hZ0,<-hZ,(hzz e).1],(hzz e).2⟩;rw[hUS,hO,hZ0] at cl';rw[hUS,hO];unfold slv;dsimp only;rw[hZ];rw[hZ] at cm;obtain⟨ots,oc⟩:=O;clear hUS hO hZ hZ0 hzz hok hf;cbv;refine cA cl' ?_;cbv;refine zYQ ?_;cbv;refine yD (fun e1=>?_) (fun e1=>?_)
 ·cbv
  (refine rC ?_;cbv)
  exact xQ rfl
 obtain⟨e2,e3⟩:=hzz2 om;subst e2 e3;cbv;refine uF rfl ?_;cbv;refine yD (fun e4=>?_) (fun e4=>?_)
 rotate_left
 ·cbv
  (refine rC ?_;cbv)
  exact xQ rfl
 cbv;refine cA cm ?_;cbv
 (refine rC ?_;cbv)
 exact yX rfl
theorem sWcT (l:List (Int×R))(hl:l.length<2^38):zG 127 [tsv l] (tsv l):=by refine sF Tryz.f127 ?_;cbv;refine⟨fun b hb=>?_⟩;cbv;refine z6 (fun h=>?_) (fun h=>?_);{cbv;refine jB rfl ?_ rfl;exact xB (hb h)};{cbv;refine vW zNK rfl rfl rfl rfl rfl (pO jE _) (yB om (by simp only[f9,zK];(try dsimp only [zI] at *);omega)) rfl ?_;cbv;refine retW (.frz 7 rfl rfl ?_ ?_) rfl ?_ rfl;{cbv;exact⟨yG (by simp),yG (by simp),trivial⟩};{exact trivial};{refine zY ?_;simp}}
theorem zW7:Pg.funcs[79]?=some Tryz.f79:=by rw[vJ];rfl
theorem sWcQ (l:List Rat)(hl:l.length<2^38):zG 79 [qlv l] (qlv l):=by refine yW zW7 rfl rfl rfl rfl rfl ?_;cbv;refine⟨fun b hb=>?_⟩;cbv;refine z6 (fun h=>?_) (fun h=>?_);{cbv;refine jB rfl ?_ rfl;exact xB (hb h)};{cbv;refine vW zQN rfl rfl rfl rfl rfl (pO zTT _) (yB om (by simp only[f9,zK];(try dsimp only [zI] at *);omega)) rfl ?_;cbv;refine retW (.frz 7 rfl rfl ?_ ?_) rfl ?_ rfl;{cbv;exact⟨yG (by simp),yG (by simp),trivial⟩};{exact trivial};{refine zY ?_;simp}}
theorem sWcI (l:List Nat)(hl:l.length<2^38):zG 58 [ilv l] (ilv l):=by refine sF Tryz.f58 ?_;cbv;refine⟨fun b hb=>?_⟩;cbv;refine z6 (fun h=>?_) (fun h=>?_);{cbv;refine jB rfl ?_ rfl;exact xB (hb h)};{cbv;refine vW zK2 rfl rfl rfl rfl rfl (pO (show ∀ a,(ci a).length=1 from fun _=>rfl) _) (yB om (by simp only[f9,zK];(try dsimp only [zI] at *);omega)) rfl ?_;cbv;refine retW (.frz 7 rfl rfl ?_ ?_) rfl ?_ rfl;{cbv;exact⟨yG (by simp),yG (by simp),trivial⟩};{exact trivial};{refine zY ?_;simp}}
theorem zQQ (f:A)(hl:f.ts.length<2^38):zG 81 [av f] (av f):=by
 have c1:=sWcT f.ts hl;obtain⟨fts,fc⟩:=f;refine sF Tryz.f81 ?_;cbv;refine cA c1 ?_;cbv
 (refine rC ?_;cbv)
 exact okA
theorem zMR:ty 22=.sli 4 80 [.nil,.ff,.nil,.nil]:=by cbv
theorem zY2:Pg.funcs[78]?=some Tryz.f78:=by rw[vJ];rfl
theorem zZY (P:Prg)(hl:P.rows.length<2^28)(hr:∀ a,a∈P.rows->a.ts.length<2^38)(ho:P.ob.ts.length<2^38):Sound 78 [pgv P] [] [] (.agg [.int .i64 (fun _=>P.v),.osl 24 4 (fun _=>0) (fun _=>P.rows.length),tsv P.ob.ts,.bool (fun _=>P.ob.c.neg),nat P.ob.c.num,nat P.ob.c.den]) [] [(24,.arr 4 (fun _=>enc ac P.rows))]:=by
 have c1:=zQQ P.ob ho;have cd:∀ (i:Nat) a,P.rows[i]?=some a->zG 81 [av a] (av a):=fun i a h=>zQQ a (hr a (zZ h));obtain⟨v,us,ob⟩:=P;obtain⟨ots,oc⟩:=ob;dsimp only at *
 refine yW zY2 rfl rfl rfl rfl rfl ?_;show wp _ ⟨tJ 0 [.agg [.int .i64 (fun _=>v),.sl (fun _=>enc ac us),tsv ots,.bool (fun _=>oc.neg),nat oc.num,nat oc.den]],_⟩ (pF _ (.agg [.int .i64 (fun _=>v),.osl 24 4 (fun _=>0) (fun _=>us.length),tsv ots,.bool (fun _=>oc.neg),nat oc.num,nat oc.den]) [] [(24,.arr 4 (fun _=>enc ac us))]);have c1':zG 81 [.agg [tsv ots,.bool (fun _=>oc.neg),nat oc.num,nat oc.den]] (.agg [tsv ots,.bool (fun _=>oc.neg),nat oc.num,nat oc.den]):=c1;clear c1 hr;cbv;refine oG 7 (by cbv) (by cbv) ?_;cbv;refine dA c1' ?_;cbv;refine zX (σ:=Nat) (fun i=>⟨[(2,.ptr 2 0),(3,.ptr 3 0),(13,alv us),(14,.int .i64 (fun _=>(us.length:Int))),(15,.int .i64 (fun _=>(i:Int)))],[(2,.box [.int .i64 (fun _=>0),.nil,.nil,.ff,.nil,.nil]),(3,.box [.int .i64 (fun _=>v),.osl 24 4 (fun _=>0) (fun _=>i),tsv ots,.bool (fun _=>oc.neg),nat oc.num,nat oc.den]),(24,.arr 4 (fun _=>enc ac (us.take i)))]⟩)
  (fun i=>i<=us.length) (fun i=>us.length-i) 0 (wH _)
  (.trans (.le (ps':=⟨[(2,.ptr 2 0),(3,.ptr 3 0),(13,alv us),(14,.int .i64 (fun _=>(us.length:Int))),(15,.int .i64 (fun _=>((0:Nat):Int)))],[(2,.box [.int .i64 (fun _=>0),.nil,.nil,.ff,.nil,.nil]),(3,.box [.int .i64 (fun _=>v),.nil,tsv ots,.bool (fun _=>oc.neg),nat oc.num,nat oc.den])]⟩) (by cbv;repeat' first|exact trivial|exact lR|exact zE (by (try dsimp only [zI] at *);rw[zK])|apply zN) (by cbv;repeat' first|exact trivial|exact lR|apply zN) rfl)
   (.trans (.adoptB (ps:=⟨[(2,.ptr 2 0),(3,.ptr 3 0),(13,alv us),(14,.int .i64 (fun _=>(us.length:Int))),(15,.int .i64 (fun _=>((0:Nat):Int)))],[(2,.box [.int .i64 (fun _=>0),.nil,.nil,.ff,.nil,.nil]),(3,.box [.int .i64 (fun _=>v),.nil,tsv ots,.bool (fun _=>oc.neg),nat oc.num,nat oc.den])]⟩) (cs:=[.int .i64 (fun _=>v),.nil,tsv ots,.bool (fun _=>oc.neg),nat oc.num,nat oc.den]) 24 4 3 1 rfl rfl rfl)
   (.le okZ (by cbv;repeat' first|exact trivial|exact lR|exact zB rfl|apply zN) rfl))) ?_
 intro i hi;cbv;refine zD (fun h=>?_) (fun h=>?_)
 ·(have hlt:i<us.length:=om;obtain⟨a,ha⟩:=zO hlt;have k1:=cd i a ha;obtain⟨ats,acc⟩:=a;have k1':zG 81 [.agg [tsv ats,.bool (fun _=>acc.neg),nat acc.num,nat acc.den]] (.agg [tsv ats,.bool (fun _=>acc.neg),nat acc.num,nat acc.den]):=k1;have htk:enc ac (us.take (i+1))=enc ac (us.take i)++yI [[tsv ats,.bool (fun _=>acc.neg),nat acc.num,nat acc.den]]:=by rw[List.take_succ,ha,<-cD];rfl);have htl:(us.take i).length=i:=by rw[y4];omega
  clear cd k1;cbv;refine xC ha gU dG ?_;cbv;refine nP 6 [(5,24)] (by cbv) (by cbv) ?_;cbv;refine dA k1' ?_;cbv;refine oD zMR rfl ⟨by simp[yI,x6]⟩ rfl (by rw[zK,htl]) (yB (by simp[yI] <;> omega) (by simp[yI,zK,htl];(try dsimp only [zI] at *);omega)) ?_;cbv;exact⟨zC om om,i+1,om,om,.le okZ (by cbv;repeat' first|exact trivial|exact lR|exact zU rfl (by rw[zK,htl];rfl)|exact zB htk.symm|apply zN) rfl⟩
 {have hin:us.take i=us:=yN om;have hil:i=us.length:=om;cbv;rw[hin];refine zT6 24 (.refl _) rfl rfl rfl ?_;cbv;exact⟨lR,zU rfl hil,lR,lR,lR,lR,trivial⟩}
abbrev wC (n:Nat) (v:Int) (us:List A) (ots:List (Int×R)) (oc:R) (sd:Bool) (st:Int) (z:R) (pt du ry:List Rat) (bas:List Nat) (pv er:Int):List PV :=
 [.int .i64 (fun _=>v),.osl n 4 (fun _=>0) (fun _=>us.length),tsv ots,.bool (fun _=>oc.neg),nat oc.num,nat oc.den,.bool (fun _=>sd),.int .i64 (fun _=>st),.bool (fun _=>z.neg),nat z.num,nat z.den,qlv pt,qlv du,qlv ry,ilv bas,.int .i64 (fun _=>pv),.int .i64 (fun _=>er)]
abbrev wS (b n:Nat) (v:Int) (us:List A) (ots:List (Int×R)) (oc:R) (sd:Bool) (st:Int) (z:R) (pt du ry:List Rat) (bas:List Nat) (pv er:Int):List (Nat×Obj') :=
 [(b,.box (wC n v us ots oc sd st z pt du ry bas pv er)),(n,.arr 4 (fun _=>enc ac us))]
abbrev wNew (n:Nat) (v:Int) (us:List A) (ots:List (Int×R)) (oc:R):List PV:=wC n v us ots oc false 0 ⟨false,[],[]⟩ [] [] [] [] 0 0
theorem zY1:Pg.funcs[36]?=some Tryz.f36:=by rw[vJ];rfl
theorem zWN (P:Prg)(h:P.sz (2^32))(hl:P.rows.length<2^28)(hv:P.valid=true):Sound 36 [pgv P] [] [] (.tup [.ptr 10 0,.int .i64 (fun _=>0)]) [] [(10,.box (wNew 8 P.v P.rows P.ob.ts P.ob.c)),(8,.arr 4 (fun _=>enc ac P.rows))]:=by have cv:=zRK P h;rw[hv] at cv;have cc:=zZY P hl (fun a ha=>by have:=(h.rows.sz a ha).t.len;omega) (by have:=h.ob.t.len;omega);obtain⟨v,us,ob⟩:=P;obtain⟨ots,oc⟩:=ob;have cv':zG 46 [.agg [.int .i64 (fun _=>v),.sl (fun _=>enc ac us),tsv ots,.bool (fun _=>oc.neg),nat oc.num,nat oc.den]] (.bool (fun _=>true)):=cv;have cc':Sound 78 [.agg [.int .i64 (fun _=>v),.sl (fun _=>enc ac us),tsv ots,.bool (fun _=>oc.neg),nat oc.num,nat oc.den]] [] [] (.agg [.int .i64 (fun _=>v),.osl 24 4 (fun _=>0) (fun _=>us.length),tsv ots,.bool (fun _=>oc.neg),nat oc.num,nat oc.den]) [] [(24,.arr 4 (fun _=>enc ac us))]:=cc;obtain⟨tru,htr⟩:∃ b,b=true:=⟨_,rfl⟩;rw[<-htr] at cv';clear cv cc h hv;refine yW zY1 rfl rfl rfl rfl rfl ?_;show wp _ ⟨tJ 0 [.agg [.int .i64 (fun _=>v),.sl (fun _=>enc ac us),tsv ots,.bool (fun _=>oc.neg),nat oc.num,nat oc.den]],_⟩ (pF _ (.tup [.ptr 10 0,.int .i64 (fun _=>0)]) [] [(10,.box (wNew 8 v us ots oc)),(8,.arr 4 (fun _=>enc ac us))]);cbv;refine cA cv' ?_;cbv;refine z6 (fun e=>?_) (fun e=>by rw[htr] at e;cases e);cbv;refine yU (fun _=>8) (.refl _) rfl okA cc' trivial rfl rfl rfl rfl rfl rfl rfl rfl ?_;cbv;refine j6 (ps':=⟨[(2,.ptr 10 0),(3,.int .i64 (fun _=>0))],[(10,.box (wNew 8 v us ots oc)),(8,.arr 4 (fun _=>enc ac us))]⟩) id (.le (by cbv;repeat' first|exact trivial|exact lR|exact zB rfl|exact z5 rfl|exact xB rfl|apply zN) (by cbv;repeat' first|exact trivial|exact lR|exact zB rfl|exact z5 rfl|exact xB rfl|apply zN) rfl) rfl okR (by rfl) trivial ?_;exact okA
theorem zY0:Pg.funcs[42]?=some Tryz.f42:=by rw[vJ];rfl
theorem zTM:Pg.funcs[37]?=some Tryz.f37:=by rw[vJ];rfl
theorem zM4:Pg.funcs[39]?=some Tryz.f39:=by rw[vJ];rfl
theorem zW9 {α:Type}{p:α->List PV}{n:Nat}{els:List (List D)}{l:List α}{i i':Nat}{a:α}{K:List PV->Prop}(he:els=enc p l)(h:l[i]?=some a)(hi:i'=i)(hf:∀ a,yV jN (p a)=true)(hn:∀ a,(p a).length=n)(hK:K (p a)):ElOk n (fun _=>els) (fun _=>i') K :=
 zUH i hi (p a) (hf a) (hn a) (by rw[he];unfold enc;rw[vU,h];rfl) hK
abbrev pgo (n:Nat) (P:Prg):PV:=.agg [.int .i64 (fun _=>P.v),.osl n 4 (fun _=>0) (fun _=>P.rows.length),tsv P.ob.ts,.bool (fun _=>P.ob.c.neg),nat P.ob.c.num,nat P.ob.c.den]
abbrev rwO (n:Nat) (us:List A):List (Nat×Obj'):=[(n,.arr 4 (fun _=>enc ac us))]
theorem zPS (P:Prg)(hP:P.sz (2^32)):Sound 46 [pgo 1000009 P] (rwO 1000009 P.rows) [] (.bool (fun _=>P.valid)) (rwO 1000009 P.rows) []:=by
 obtain⟨n,us,ob⟩:=P;have hus:=hP.rows;have hc:∀ a,a∈us->zG 80 [av a,.int .i64 (fun _=>n)] (.bool (fun _=>a.valid n)):=fun a h=>b6 a n ((hus.sz a h).mono (by decide));have co:=b6 ob n (hP.ob.mono (by decide));have hul:=hus.len;dsimp only at hul;generalize hr:Prg.valid ⟨n,us,ob⟩=r;have hr0:r=(decide (0<=n/\n<=1280/\us.length<=4096)&&ob.valid n&&us.all (A.valid n)):=hr.symm;generalize ob.valid n=bo at *
 obtain⟨ots,oc⟩:=ob;have hf:¬(0<=n/\n<=1280/\us.length<=4096)->r=false:=fun h=>by rw[hr0,decide_eq_false h];rfl
 have ht:(0<=n/\n<=1280/\us.length<=4096)->r=(bo&&us.all (A.valid n)):=fun h=>by rw[hr0,decide_eq_true h,wM]
 clear hr hr0 hus hP;obtain⟨XS,hXS⟩:∃ XS,enc ac us=XS:=⟨_,rfl⟩;have hXl:XS.length=us.length:=by rw[<-hXS,zK]
 show Sound _ [.agg [.int .i64 (fun _=>n),.osl 1000009 4 (fun _=>0) (fun _=>us.length),tsv ots,.bool (fun _=>oc.neg),nat oc.num,nat oc.den]] [(1000009,.arr 4 (fun _=>enc ac us))] [] _ [(1000009,.arr 4 (fun _=>enc ac us))] [];rw[hXS];refine yW zGA rfl rfl rfl rfl rfl ?_;cbv;refine yD (fun e1=>?_) (fun e1=>?_);{cbv;refine j6 id (.refl _) rfl okR (by rfl) okR ?_;exact z5 (hf okQ)};cbv;refine yD (fun e2=>?_) (fun e2=>?_);{cbv;refine j6 id (.refl _) rfl okR (by rfl) okR ?_;exact z5 (hf okQ)};cbv;refine yD (fun e3=>?_) (fun e3=>?_);{cbv;refine j6 id (.refl _) rfl okR (by rfl) okR ?_;exact z5 (hf okQ)};have hv:=ht okQ;clear ht hf e1 e2 e3;cbv;refine cA co ?_;cbv;refine z6 (fun e4=>?_) (fun e4=>?_)
 rotate_left
 {cbv;refine j6 id (.refl _) rfl okR (by rfl) okR ?_;exact z5 (by rw[hv,e4];rfl)};rw[e4,wM] at hv;cbv;refine zX (σ:=Nat) (fun i=>⟨[(1,.ptr 1 0),(28,.osl 1000009 4 (fun _=>0) (fun _=>us.length)),(29,.int .i64 (fun _=>(us.length:Int))),(30,.int .i64 (fun _=>(i:Int)))],[(1000009,.arr 4 (fun _=>XS)),(1,.box [.int .i64 (fun _=>n),.osl 1000009 4 (fun _=>0) (fun _=>us.length),tsv ots,.bool (fun _=>oc.neg),nat oc.num,nat oc.den])]⟩) (fun i=>i<=us.length/\r=(us.drop i).all (A.valid n)) (fun i=>us.length-i) 0 ⟨by omega,by rw[hv];rfl⟩ (wkW) ?_;clear hv;intro i hi;obtain⟨h1,h2⟩:=hi;cbv;refine zD (fun h5=>?_) (fun h5=>?_)
 ·have hlt:i<us.length:=om;obtain⟨a,ha⟩:=kT hlt;have cv:=hc a (zZ ha);rw[uX ha,zLB] at h2;generalize a.valid n=pa at *
  cbv;refine⟨zQ om om,?_⟩;refine zW9 hXS.symm ha om gU dG ?_;cbv;refine cA cv ?_;cbv;refine z6 (fun e=>?_) (fun e=>?_);{cbv;refine⟨zC om om,?_⟩;cbv;exact⟨i+1,⟨om,by rw[h2,e,wM]⟩,om,wkW⟩};{cbv;refine j6 id (.refl _) rfl okR (by rfl) okR ?_;exact z5 (by rw[h2,e];rfl)}
 {have he:i=us.length:=om;rw[he,vG] at h2;cbv;refine j6 id (.refl _) rfl okR (by rfl) okR ?_;exact xQ h2}
end Go.Proofs.YtfainocfaddbdaaGreat
