/- A part of the proof: FmH, LsD. -/
import Derived.Test.YtfainocfaddbdaaGreatY41
import Derived.Test.YtfainocfaddbdaaGreatY37
import Derived.Test.YtfainocfaddbdaaGreatY39
set_option linter.all false
namespace Go.Proofs.YtfainocfaddbdaaGreat
open Go
set_option maxRecDepth 100000
set_option maxHeartbeats 8000000
theorem zA1 {k:Nat}(hk:1<=k):Fits k (-1:Rat):=(dC (dD (z:=1) (k:=1) (by unfold B;decide) (Nat.le_refl 1))).mono hk
theorem zLZ {f:F}{n k m:Nat}(hc:Cn f.ts)(hf:f.fl k m)(hk:1<=k):∀ q,q∈cfs f n->Fits k q:=fun q hq=>by
 unfold cfs at hq;rcases List.mem_append.1 hq with hq|hq;{obtain⟨i,_,rfl⟩:=List.mem_map.1 hq;exact zG7 hc hf.t hk _}
 ·(have:q=f.c:=by simpa using hq);rw[this];exact hf.c
def cb (b:Bool):List PV:=[.bool (fun _=>b)]
theorem el_b {l:List Bool}{i i':Nat}{x:Bool}{K:List PV->Prop}(h:l[i]?=some x)(hi:i'=i)(hK:K [.bool (fun _=>x)]):ElOk 1 (fun _=>enc cb l) (fun _=>i') K :=
 ⟨⟨cb x,rfl,rfl,by show (enc cb l)[i']?=_;rw[hi];unfold enc;rw[List.getElem?_map,h];rfl,hK⟩⟩
theorem zS6 {α:Type}{p:α->List PV}{n:Nat}{els:List (List D)}{l:List α}{i i':Nat}{a:α}{K:List PV->Prop}(he:els=enc p l)(h:l[i]?=some a)(hi:i'=i)(hf:∀ a,yL qS (p a)=true)(hn:∀ a,(p a).length=n)(hK:K (p a)):ElOk n (fun _=>els) (fun _=>i') K :=
 zP3 i hi (p a) (hf a) (hn a) (by rw[he];unfold enc;rw[List.getElem?_map,h];rfl) hK
theorem zJ8 {l:List FR}{done:List Bool}{vs:List Nat}{b:Int}{n:Nat}(h:∀ v,v∈vs->v<n)(hb:b=-1\/∃ u:Nat,u<n/\b=u):uE l done vs b=-1\/∃ u:Nat,u<n/\uE l done vs b=u:=by obtain⟨h1,_⟩:=gJ (l:=l) (done:=done) (vs:=vs) (b:=b);rcases h1 with h1|⟨v,a,_,c⟩;{rw[h1];exact hb};{exact .inr ⟨v,h v a,c⟩}
theorem zSQ {n k m:Nat}{fs:List F}{ob:F}(hn:n<=40)(hl:fs.length<=5000)(hr:∀ f,f∈fs->f.fl k m/\f.wf (n:Int))(ho:ob.fl k m/\ob.wf (n:Int))(hk1:1<=k)(hk:k<=2^20)(hm:m<=2^20):zJ 59 [pgv (prg n fs ob)] (.tup [.int .i64 (fun _=>(((d8 n fs ob).1:Nat):Int)),rv (zO (d8 n fs ob).2)]):=by
 
 have htw:((F.var n).sub ob).wf ((n+1:Nat):Int):=(F.wf.var (by omega) (by omega)).sub (ho.2.mono (by omega));have htf:((F.var n).sub ob).fl (1+k+2) (1+m):=(zL7 (n:Int)).sub ho.1;have c1:zJ 103 [.int .i64 (fun _=>(n:Int))] (av (fA (F.var n))):=zQ0 (n:Int);have c2:zJ 33 [av (fA (F.var n)),av (fA ob)] (av (fA ((F.var n).sub ob))):=zSW (F.wf.var (n:=((n+1:Nat):Int)) (show (0:Int)<=n by omega) (show (n:Int)<((n+1:Nat):Int) by omega)).cn ho.2.cn (zL7 (n:Int)) ho.1 (by decide) (by omega) (by decide) (by omega);have c3:=s32 (-1) (by decide) (by decide);have e3:((-1:Int):Rat)=(-1:Rat):=rfl;rw[e3] at c3;have c4:zJ 27 [av (fA ((F.var n).sub ob)),rv (zO (-1))] (av (fA (((F.var n).sub ob).scale (-1)))):=zOF (q:=-1) htf (zA1 (Nat.le_refl 1)) (by omega) (by omega) (by decide);have hAF:∀ f,f∈pV n fs ob->f.wf ((n+1:Nat):Int)/\f.fl (k+6) (m+1):=fun f hf=>by rcases List.mem_cons.1 hf with rfl|hf;{exact⟨htw,htf.mono (by omega) (by omega)⟩};{rcases List.mem_cons.1 hf with rfl|hf;{exact⟨htw.scale,(htf.scale (zA1 (Nat.le_refl 1))).mono (by omega) (by omega)⟩};{exact⟨(hr f hf).2.mono (by omega),(hr f hf).1.mono (by omega) (by omega)⟩}}
 have cd:∀ (i:Nat) f,(pV n fs ob)[i]?=some f->zJ 104 [av (fA f),.int .i64 (fun _=>((n+1:Nat):Int))] (.tup [zlv (cD f (n+1)).1,.bool (fun _=>(cD f (n+1)).2)]):=fun i f hf=>by obtain⟨h1,h2⟩:=hAF f (List.mem_of_getElem? hf);exact zSS f (n+1) h1.cn (by have:=h2.len;omega) (by omega) fun q hq=>(zLZ h1.cn h2 (by omega) q hq).mono (by omega)
 have hAl:(pV n fs ob).map fA=fA ((F.var n).sub ob)::fA (((F.var n).sub ob).scale (-1))::fs.map fA:=rfl;have hAn:(pV n fs ob).length=fs.length+2:=rfl;have hspec:d8 n fs ob=(if 62<fs.length+2 then (0,0) else (match cZ (n+1) ((pV n fs ob).drop 0) 0 [] with
  |none=>(0,0)
  |some l=>(match mH n n (List.replicate n false) l with
   |none=>(0,0)| some m=>uC n m none none))):=rfl
 have hlok:∀ l,cZ (n+1) (pV n fs ob) 0 []=some l->fs.length+2<=62->LOk l (n+2)/\l.length=fs.length+2:=fun l h1 h2=>zJZ h1 h2;have hdr:(pV n fs ob).drop 0=pV n fs ob:=rfl;obtain⟨AF,hAFe⟩:∃ AF,pV n fs ob=AF:=⟨_,rfl⟩;rw[hAFe] at hAl hAn hspec cd hlok hdr;obtain⟨⟨S0,z0⟩,hS⟩:∃ S,d8 n fs ob=S:=⟨_,rfl⟩;rw[hS] at hspec;rw[hS];show zJ _ [.agg [.int .i64 (fun _=>(n:Int)),alv (fs.map fA),tsv (fA ob).ts,.bool (fun _=>(fA ob).c.neg),nat (fA ob).c.num,nat (fA ob).c.den]] (.tup [.int .i64 (fun _=>(S0:Int)),rv (zO z0)]);obtain⟨V,hV⟩:∃ a,fA (F.var n)=a:=⟨_,rfl⟩;obtain⟨O,hO⟩:∃ a,fA ob=a:=⟨_,rfl⟩;obtain⟨T,hT⟩:∃ a,fA ((F.var n).sub ob)=a:=⟨_,rfl⟩;obtain⟨T2,hT2⟩:∃ a,fA (((F.var n).sub ob).scale (-1))=a:=⟨_,rfl⟩;obtain⟨M1,hM1⟩:∃ a,zO (-1)=a:=⟨_,rfl⟩;obtain⟨US,hUS⟩:∃ a,fs.map fA=a:=⟨_,rfl⟩;obtain⟨Z,hZ⟩:∃ a,zO z0=a:=⟨_,rfl⟩;have hUl:US.length=fs.length:=by rw[<-hUS,List.length_map]
 rw[hV] at c1 c2;rw[hO,hT] at c2;rw[hM1] at c3 c4;rw[hT,hT2] at c4;rw[hT,hT2,hUS] at hAl;have hz:z0=0->Z=⟨false,[],[]⟩:=fun e=>by rw[<-hZ,e];exact mT
 rw[hO,hUS,hZ];clear hAFe hAF htw htf hr ho hV hO hT hT2 hM1 hUS hS e3;obtain⟨ots,oc⟩:=O;obtain⟨vts,vc⟩:=V;obtain⟨tts,tcc⟩:=T;obtain⟨t2s,t2c⟩:=T2;refine sF Tryz.f59 ?_;cbv;refine iB 6 (by cbv) (by cbv) ?_;cbv;refine dA c1 ?_;cbv;refine dA c2 ?_;cbv;clear c1 c2;refine s6 (σ:=Unit) (fun _=>⟨[(3,.ptr 3 0),(4,.int .i64 (fun _=>(n:Int))),(6,.osl 30 4 (fun _=>0) (fun _=>US.length+2))],[(3,.box [.ff,.nil,.nil]),(30,.arr 4 (fun _=>enc ac ((⟨tts,tcc⟩:A)::⟨t2s,t2c⟩::US)))]⟩) (fun _=>True) (.refl _) (by cbv) ?_ ?_
 ·cbv
  repeat' first
   |exact trivial
   |(refine xO rfl okA c3 rfl ?_;cbv)
   |(refine xO rfl okA c4 rfl ?_;cbv)
   |(refine zIU (by cbv) ?_;cbv)
   |(refine vM zMA rfl rfl rfl (by rfl) rfl (zIH nY _) (yE (by exact Int.natCast_nonneg _) (by show ((2+(enc ac US).length:Nat):Int)*80<=_;rw[zM];(try dsimp only [zI] at *);omega)) rfl ?_;cbv)
   |exact⟨(),trivial,.le (by cbv;repeat' first|exact trivial|exact lR|exact z4 rfl (by simp[yS,zM];omega)|apply And.intro) (by cbv;exact⟨okA,zA rfl,trivial⟩) rfl⟩
   |apply And.intro
 intro _ _;clear c3 c4;have hAl2:((⟨tts,tcc⟩:A)::⟨t2s,t2c⟩::US).length=fs.length+2:=by simp[hUl]
 rw[<-hAl] at hAl2;rw[<-hAl];have hget:∀ (i:Nat) f,AF[i]?=some f->(AF.map fA)[i]?=some (fA f):=fun i f h=>by rw[List.getElem?_map,h];rfl
 obtain⟨AL,hALe⟩:∃ AL,AF.map fA=AL:=⟨_,rfl⟩;rw[hALe] at hAl2 hget;rw[hALe];have hr0:∀ {a b:Nat×Rat},a=b->(S0,z0)=a->(S0=b.1/\z0=b.2):=fun e h=>by rw[<-e,<-h];exact⟨rfl,rfl⟩
 clear hAl hALe;cbv;refine zE (fun e0=>?_) (fun e0=>?_)
 ·have hbig:62<fs.length+2:=om;rw[if_pos hbig] at hspec;have s1:S0=0:=congrArg Prod.fst hspec;have s2:=hz (congrArg Prod.snd hspec);subst s1 s2;cbv
  (refine rC ?_;cbv)
  exact⟨zC rfl,okA,trivial⟩
 have hsm:fs.length+2<=62:=om;rw[if_neg (by omega)] at hspec;have h62:AF.length<=62:=by omega
 clear e0;cbv;refine zZ (σ:=Nat×List FR) (fun s=>⟨[(3,.ptr 3 0),(4,.int .i64 (fun _=>(n:Int))),(6,.osl 30 4 (fun _=>0) (fun _=>US.length+2)),(7,.osl 501 2 (fun _=>0) (fun _=>s.2.length)),(8,.int .i64 (fun _=>(s.1:Int)))],[(3,.box [.ff,.nil,.nil]),(30,.arr 4 (fun _=>enc ac AL)),(501,.arr 2 (fun _=>enc frc s.2))]⟩)
  (fun s=>s.1<=AF.length/\s.2.length=s.1/\cZ (n+1) (AF.drop s.1) s.1 s.2=cZ (n+1) (AF.drop 0) 0 []) (fun s=>AF.length-s.1) (0,[]) ⟨Nat.zero_le _,rfl,rfl⟩ (.trans (.adoptT 501 2 7 rfl rfl) (wkZ)) ?_
 intro s hs;obtain⟨i,acc⟩:=s;obtain⟨h1,h2,h3⟩:=hs;dsimp only at h1 h2 h3;cbv;refine zE (fun h5=>?_) (fun h5=>?_)
 ·(have hlt:i<AF.length:=om;obtain⟨f,hf⟩:=zS hlt;have cdf:=cd i f hf;have hgf:=hget i f hf;rw[xX hf,cZ] at h3;obtain⟨a,ha⟩:∃ a,fA f=a:=⟨_,rfl⟩;rw[ha] at cdf hgf;obtain⟨⟨D1,D2⟩,hD⟩:∃ D,cD f (n+1)=D:=⟨_,rfl⟩;rw[hD] at cdf h3;dsimp only at cdf h3;have hpw:i<62:=by omega);have hsh:ishl .u64 1 (i:Int)=((2^i:Nat):Int):=by have:=f8 (a:=1) (k:=i) (by omega) (by rw[Nat.one_mul];exact Nat.lt_of_lt_of_le (Nat.pow_lt_pow_right (by decide) hpw) (by decide));rw[Nat.one_mul] at this;exact this
  obtain⟨P2,hP2⟩:∃ P,2^i=P:=⟨_,rfl⟩;rw[hP2] at h3 hsh;clear hP2 hD ha;obtain⟨ats,ac0⟩:=a;cbv;refine⟨zQ om om,zS6 rfl hgf om mS nY ?_⟩;cbv;refine⟨zD om om,xO rfl (by exact⟨okA,zC om,trivial⟩) cdf rfl ?_⟩;cbv;refine yK (fun e=>?_) (fun e=>?_)
  rotate_left
  ·rw[if_neg (by rw[e];decide)] at h3;rw[<-h3] at hspec;have s1:S0=0:=congrArg Prod.fst hspec;have s2:=hz (congrArg Prod.snd hspec);subst s1 s2;cbv
   (refine rC ?_;cbv)
   exact⟨zC rfl,okA,trivial⟩
  ·(rw[if_pos e] at h3;have hel:enc frc acc++[[D.sl (enc cz D1),D.int .u64 (ishl .u64 1 (i:Int))]]=enc frc (acc++[⟨D1,P2⟩]):=by rw[hsh];exact nS acc ⟨D1,P2⟩);cbv
   refine⟨wN om,?_⟩;cbv;refine aO tyFr ?_;cbv;exact⟨zD om om,(i+1,acc++[⟨D1,P2⟩]),⟨om,by show (acc++[_]).length=i+1;rw[List.length_append,h2];rfl,h3⟩,om,.le (by cbv;repeat' first|exact trivial|exact lR|exact zC om|exact z4 rfl (by simp[zM,yS])|apply And.intro) (by cbv;exact⟨okA,zA rfl,zA hel,trivial⟩) rfl⟩
 have hi:i=AF.length:=om;rw[hi,List.drop_length,cZ] at h3;rw[hdr] at h3 hspec;rw[<-h3] at hspec;dsimp only at hspec;obtain⟨hlk,hll⟩:=hlok acc h3.symm hsm;clear h3 h2 h1 h5 hlok hget cd hdr hi;have hlen62:acc.length<=62:=by omega
 have hb0:List.replicate (n:Int).toNat (xJ [PV.ff])=enc cb (List.replicate n false):=by rw[show (n:Int).toNat=n by omega];unfold enc;rw[List.map_replicate];rfl
 obtain⟨KK,hKK⟩:∃ K:Nat->Nat,∀ i,K i=62+20000*i:=⟨_,fun _=>rfl⟩;have hK0:acc.length<=KK 0:=by rw[hKK];omega
 have hK1:∀ i,KK (i+1)=KK i+20000:=fun i=>by rw[hKK,hKK];omega
 have hKm:∀ i,i<=40->KK i<=1000000:=fun i hi=>by rw[hKK];omega
 clear hKK;have hE0:∃ E,mH n n (List.replicate n false) acc=E:=⟨_,rfl⟩;obtain⟨E,hE⟩:=hE0;rw[hE] at hspec;cbv;refine⟨yE om om,x7 om om,?_⟩;refine zZ (σ:=Nat×List Bool×List FR) (fun s=>⟨[(3,.ptr 3 0),(4,.int .i64 (fun _=>(n:Int))),(7,frv s.2.2),(11,.osl 62 1 (fun _=>0) (fun _=>n)),(12,.int .i64 (fun _=>((s.1+1:Nat):Int)))],[(3,.box [.ff,.nil,.nil]),(62,.arr 1 (fun _=>enc cb s.2.1))]⟩)
  (fun s=>s.1<=n/\mH n (n-s.1) s.2.1 s.2.2=E/\LOk s.2.2 (n+2)/\s.2.2.length<=KK s.1/\∃ Es,DoneE n s.2.1 Es/\Es.length=s.1) (fun s=>n-s.1) (0,List.replicate n false,acc) ⟨Nat.zero_le _,hE,hlk,hK0,[],DoneE.zero,rfl⟩
  (.trans (.frz 501 rfl rfl (by cbv;repeat' first|exact trivial|exact yF (by simp[zM])|apply And.intro) (by cbv;repeat' first|exact trivial|exact yF (by simp[zM])|apply And.intro)) (.le (by cbv;repeat' first|exact trivial|exact lR|exact z4 rfl om|exact zC om|exact zY (by rw[List.drop_zero,List.take_of_length_le (by rw[zM];exact Nat.le_refl _)])|apply And.intro) (by cbv;exact⟨okA,zA hb0,trivial⟩) rfl)) ?_
 clear hE hlk hK0 hb0 hlen62 hll;intro s hs;obtain⟨q,done,L⟩:=s;obtain⟨h1,h2,h3,h4,Es,h6,h7⟩:=hs;dsimp only at h1 h2 h3 h4 h6;have hdl:=h6.len;cbv;refine zE (fun h5=>?_) (fun h5=>?_)
 ·(have hqn:q<n:=om;have hkm:=hKm q (by omega);have hf:n-q=(n-(q+1))+1:=by omega);rw[hf,mH] at h2
  (have hbst:=h6.open (by omega);obtain⟨b1,b2⟩:=gJ (l:=L) (done:=done) (vs:=List.range n) (b:=-1);have b3:=b2 (by decide) hbst;have hlt:=zJ8 (l:=L) (done:=done) (vs:=List.range n) (b:=-1) (n:=n) (fun v hv=>List.mem_range.1 hv) (.inl rfl);obtain⟨Bv,hBd,hBn,hBeq⟩:∃ v,done.getD v false=false/\v<n/\uE L done (List.range n) (-1)=(v:Int):=by rcases b1 with b1|⟨v,a,b,c⟩;{omega};{exact⟨v,b,List.mem_range.1 a,c⟩});rw[hBeq,Int.toNat_natCast] at h2;have hBd0:uE L done ((List.range n).drop 0) (-1)=(Bv:Int):=hBeq;have cpr:∀ u,u<n->zJ 105 [frv L,.int .i64 (fun _=>(u:Int))] (.int .i64 (fun _=>((prs L u:Nat):Int))):=fun u hu=>zSP L u (n+2) h3 (by omega);have hprs:∀ u:Nat,prs L u<=1048576*1048576:=fun u=>by have:=h3.len;unfold prs;exact Nat.mul_le_mul (Nat.le_trans (List.length_filter_le _ _) this) (Nat.le_trans (List.length_filter_le _ _) this)
  clear b1 b2 b3 hlt hBeq hbst;cbv;refine zZ (σ:=Nat×Int) (fun s=>⟨[(3,.ptr 3 0),(4,.int .i64 (fun _=>(n:Int))),(7,frv L),(11,.osl 62 1 (fun _=>0) (fun _=>n)),(12,.int .i64 (fun _=>((q+1:Nat):Int))),(13,.int .i64 (fun _=>s.2)),(14,.int .i64 (fun _=>(s.1:Int)))],[(3,.box [.ff,.nil,.nil]),(62,.arr 1 (fun _=>enc cb done))]⟩)
   (fun s=>s.1<=n/\uE L done ((List.range n).drop s.1) s.2=(Bv:Int)/\(s.2=-1\/∃ u:Nat,u<n/\s.2=u)) (fun s=>n-s.1) (0,-1) ⟨Nat.zero_le _,hBd0,.inl rfl⟩ (wkZ) ?_
  intro s hs;obtain⟨v,b⟩:=s;obtain⟨g1,g2,g3⟩:=hs;dsimp only at g1 g2 g3;cbv;refine zE (fun h5=>?_) (fun h5=>?_)
  ·(have hv:v<n:=om;rw[xX (x:=v) (by rw[List.getElem?_range hv]),uE] at g2;have hdv:done[v]?=some (done.getD v false):=yI (by omega);obtain⟨dv,hdv'⟩:∃ d,done.getD v false=d:=⟨_,rfl⟩;rw[hdv'] at hdv g2;have hskip:¬(dv=false/\(b<0\/prs L v<prs L b.toNat))->uE L done ((List.range n).drop (v+1)) b=(Bv:Int):=fun e=>by rw[if_neg e] at g2;exact g2);have htake:(dv=false/\(b<0\/prs L v<prs L b.toNat))->uE L done ((List.range n).drop (v+1)) (v:Int)=(Bv:Int):=fun e=>by rw[if_pos e] at g2;exact g2
   (have hcv:=cpr v hv;have hcb:¬b<0->∃ u:Nat,b=u/\u<n/\zJ 105 [frv L,.int .i64 (fun _=>b)] (.int .i64 (fun _=>((prs L b.toNat:Nat):Int))):=fun e=>by rcases g3 with g3|⟨u,g3,g4⟩;{omega};{subst g4;exact⟨u,rfl,g3,cpr u g3⟩});obtain⟨pv,hpv⟩:∃ d,prs L v=d:=⟨_,rfl⟩;obtain⟨pb,hpb⟩:∃ d,prs L b.toNat=d:=⟨_,rfl⟩;rw[hpv] at hskip htake hcv;rw[hpb] at hskip htake hcb;clear g2 hpv hpb hBd0 cpr hprs;cbv;refine⟨zQ om om,el_b hdv om ?_⟩;cbv;refine wE (fun e1=>?_) (fun e1=>?_);{have hno:=hskip (fun e=>by rw[e1] at e;cases e.1);cbv;exact⟨zD om om,(v+1,b),⟨om,hno,g3⟩,om,wkZ⟩};cbv;refine z9 (fun e2=>?_) (fun e2=>?_);{have hyes:=htake ⟨e1,.inl om⟩;cbv;exact⟨zD om om,(v+1,(v:Int)),⟨om,hyes,.inr ⟨v,hv,rfl⟩⟩,om,wkZ⟩};obtain⟨u,hu,hun,hcu⟩:=hcb om;cbv;refine cA hcv ?_;cbv;refine cA hcu ?_;cbv;refine zE (fun e3=>?_) (fun e3=>?_);{have hyes:=htake ⟨e1,.inr om⟩;cbv;exact⟨zD om om,(v+1,(v:Int)),⟨om,hyes,.inr ⟨v,hv,rfl⟩⟩,om,wkZ⟩}
   ·have hno:=hskip (fun e=>by
     rcases e.2 with e|e;{exact e2 om}
     ·exact e3 om)
    cbv;exact⟨zD om om,(v+1,b),⟨om,hno,g3⟩,om,wkZ⟩
  ·(have hv:v=n:=om;rw[hv,List.drop_of_length_le (by simp),uE] at g2;subst g2;have hcB:=cpr Bv hBn;have hcE:=zSR L Bv (q+1) (n+2) h3 (by omega) (by omega) (by omega);have hpB:=hprs Bv;have hstep:∀ m,elS L Bv (q+1)=some m->¬20000<prs L Bv->LOk m (n+2)/\m.length<=KK (q+1):=fun m hm hp=>by have:=zO7 h3 hm (by omega);exact⟨this.1,by rw[hK1];omega⟩);have hdS:=h6.step hBn hBd;have hnk:n-(n-(q+1))=q+1:=Nat.sub_sub_self (Nat.succ_le_of_lt hqn);rw[hnk] at h2;unfold elR at hcE;obtain⟨pB,hpB'⟩:∃ p,prs L Bv=p:=⟨_,rfl⟩;rw[hpB'] at hcB hstep h2 hpB;obtain⟨R,hR⟩:∃ R,elS L Bv (q+1)=R:=⟨_,rfl⟩;rw[hR] at hcE hstep h2;clear hpB' hR cpr hprs hBd0 g1 g3 hv h3 h4 hBd;cbv;refine cA hcB ?_;cbv;refine zE (fun e=>?_) (fun e=>?_)
   ·have hbig:20000<pB:=om;rw[if_pos hbig] at h2;rw[<-h2] at hspec;have s1:S0=0:=congrArg Prod.fst hspec;have s2:=hz (congrArg Prod.snd hspec);subst s1 s2;cbv
    (refine rC ?_;cbv)
    exact⟨zC rfl,okA,trivial⟩
   have hsm2:¬20000<pB:=om;rw[if_neg hsm2] at h2;cases R with
   |none =>
    dsimp only at h2 hcE;rw[<-h2] at hspec;have s1:S0=0:=congrArg Prod.fst hspec;have s2:=hz (congrArg Prod.snd hspec);subst s1 s2;cbv;refine cA hcE ?_;cbv;refine zRZ rfl ?_;cbv
    (refine rC ?_;cbv)
    exact⟨zC rfl,okA,trivial⟩
   |some m =>
    dsimp only at h2 hcE;obtain⟨k1,k2⟩:=hstep m rfl hsm2;obtain⟨x,hx⟩:=zS (show Bv<done.length by omega);clear hstep;cbv;refine cA hcE ?_;cbv;refine zRY rfl ?_;cbv;refine⟨zQ om om,el_b hx om ?_⟩;cbv;exact⟨zD om om,(q+1,done.set Bv true,m),⟨om,h2,k1,k2,Bv::Es,hdS,by rw[List.length_cons,h7]⟩,om,.le okZ (by cbv;exact⟨okA,zA (by show (enc cb done).set (0+Bv) _=_;rw[Nat.zero_add];exact l9 cb done Bv true),trivial⟩) rfl⟩
 ·(have hq:q=n:=om;have h2':some L=E:=by rw[<-h2,hq,Nat.sub_self];rfl);rw[<-h2'] at hspec
  dsimp only at hspec;have cen:=zQ4 L n h3 (by omega);have s1:S0=(uC n L none none).1:=congrArg Prod.fst hspec;have s2:z0=(uC n L none none).2:=congrArg Prod.snd hspec;rw[<-s1,<-s2,hZ] at cen;clear s1 s2 hspec h2 h2' h3;cbv;refine cA cen ?_;cbv
  (refine rC ?_;cbv)
  exact okA
def Prg.few (P:Prg):Bool:=P.small&&decide (P.v<=3)&&decide ((P.rows.length:Int)<=7)
theorem zQ2 (P:Prg)(hP:P.sz (2^32)):zJ 19 [pgv P] (.bool (fun _=>P.few)):=by
 refine sF Tryz.f19 ?_;have cs:=zSO P hP;generalize hr:P.few=r;have hr0:r=(P.small&&decide (P.v<=3)&&decide ((P.rows.length:Int)<=7)):=hr.symm;generalize P.small=ps at *
 obtain⟨n,us,ob⟩:=P;obtain⟨ots,oc⟩:=ob;dsimp only at hr0;clear hr hP;cbv;refine cA cs ?_;cbv;refine wE (fun e1=>?_) (fun e1=>?_)
 rotate_left
 ·cbv
  (refine rC ?_;cbv)
  exact zN (by rw[hr0,e1];rfl)
 rw[e1,Bool.true_and] at hr0;cbv;refine z9 (fun e2=>?_) (fun e2=>?_)
 rotate_left
 ·cbv
  (refine rC ?_;cbv)
  exact zN (by rw[hr0,decide_eq_false e2];rfl)
 rw[decide_eq_true e2,Bool.true_and] at hr0;cbv
 (refine rC ?_;cbv)
 exact zK (by rw[hr0];exact decide_eq_decide.2 (by rw[zM]))
theorem zQ3 {v k m:Nat}{fs:List F}{ob:F}{s:SolR}(hv:v<=40)(hl:fs.length<=5000)(hr:∀ f,f∈fs->f.fl k m/\f.wf (v:Int))(ho:ob.fl k m/\ob.wf (v:Int))(hk1:1<=k)(hk:k<=2^20)(hm:m<=2^20) (h:SolOk v (fs.map (lnS v)) (lnS v ob) s) (hf:Fits (2^30) s.val):zJ 21 [pgv (prg v fs ob),slv s] (.bool (fun _=>true)):=by
 have cl:=zSQ (n:=v) hv hl hr ho hk1 hk hm;have hok:(d8 v fs ob).1≠0->d8 v fs ob=(s.st,s.val):=zLI (fun f hf=>(hr f hf).2) ho.2 h;have cm:=zFF s.val hf;obtain⟨⟨S0,z0⟩,hS⟩:∃ S,d8 v fs ob=S:=⟨_,rfl⟩;rw[hS] at cl hok;dsimp only at cl hok;clear hr ho h hS;refine sF Tryz.f21 ?_;show wp _ ⟨lS 0 [.agg [.int .i64 (fun _=>(v:Int)),.sl (fun _=>enc ac (fs.map fA)),tsv (fA ob).ts,.bool (fun _=>(fA ob).c.neg),nat (fA ob).c.num,nat (fA ob).c.den],slv s],_⟩ _;have cl':zJ 59 [.agg [.int .i64 (fun _=>(v:Int)),alv (fs.map fA),tsv (fA ob).ts,.bool (fun _=>(fA ob).c.neg),nat (fA ob).c.num,nat (fA ob).c.den]] (.tup [.int .i64 (fun _=>(S0:Int)),rv (zO z0)]):=cl;clear cl;obtain⟨US,hUS⟩:∃ US,fs.map fA=US:=⟨_,rfl⟩;obtain⟨O,hO⟩:∃ a,fA ob=a:=⟨_,rfl⟩;obtain⟨st,val,pt,du,ry,bas,pv⟩:=s;dsimp only at *
 have hzz:S0≠0->z0=val/\S0=st:=fun e=>by have:=hok e;exact⟨congrArg Prod.snd this,congrArg Prod.fst this⟩
 obtain⟨Z,hZ⟩:∃ a,zO val=a:=⟨_,rfl⟩;obtain⟨Z0,hZ0⟩:∃ a,zO z0=a:=⟨_,rfl⟩;have hzz2:S0≠0->Z0=Z/\S0=st:=fun e=>⟨by rw[<-hZ0,<-hZ,(hzz e).1],(hzz e).2⟩;rw[hUS,hO,hZ0] at cl';rw[hUS,hO];unfold slv;dsimp only;rw[hZ];rw[hZ] at cm;obtain⟨ots,oc⟩:=O;clear hUS hO hZ hZ0 hzz hok hf;cbv;refine cA cl' ?_;cbv;refine zRE ?_;cbv;refine z9 (fun e1=>?_) (fun e1=>?_)
 ·cbv
  (refine rC ?_;cbv)
  exact zU rfl
 obtain⟨e2,e3⟩:=hzz2 om;subst e2 e3;cbv;refine bT rfl ?_;cbv;refine z9 (fun e4=>?_) (fun e4=>?_)
 rotate_left
 ·cbv
  (refine rC ?_;cbv)
  exact zU rfl
 cbv;refine cA cm ?_;cbv
 (refine rC ?_;cbv)
 exact zK rfl
theorem zQ7 (P:Prg)(h:P.bk (2^20)):zJ 3 [pgv P] (.bool (fun _=>true)):=by
 have hz:=h.sz (m:=2^32) (Nat.le_refl _) (by decide);have cv:=zQ2 P hz;obtain⟨tru,htru⟩:∃ b,b=true:=⟨_,rfl⟩;have ca:=zQ8 htru;have hfs:P.few=true->P.small=true:=fun e=>by unfold Prg.few at e;simp only[Bool.and_eq_true] at e;exact e.1.1
 obtain⟨b,hb⟩:∃ b,P.few=b:=⟨_,rfl⟩;rw[hb] at cv hfs;have cs:b=true->∃ s:SolR,zJ 20 [pgv P] (.tup [slv s,.int .i64 (fun _=>0)])/\zJ 21 [pgv P,slv s] (.bool (fun _=>tru)):=fun e=>by obtain⟨v,fs,ob,rfl,hl,hw⟩:=zI8 (hfs e);obtain⟨s,hs⟩:=hw.solve;exact⟨s,hs.call,by rw[htru];exact zQ3 (by have:=hw.lv;omega) (by omega) hw.rows hw.obj hw.k1 (by decide) (by decide) hs.sl.ok (hs.sl.fit.val.mono (by decide))⟩
 clear hb hz h hfs;obtain⟨n,us,ob⟩:=P;obtain⟨ots,oc⟩:=ob;refine sF Tryz.f3 ?_;cbv;refine cA ca ?_;cbv;refine yK (fun e=>?_) (fun e=>by rw[htru] at e;cases e);cbv;refine cA cv ?_;cbv;refine yK (fun e2=>?_) (fun e2=>?_)
 rotate_left
 ·cbv
  (refine rC ?_;cbv)
  exact zU rfl
 obtain⟨s,c1,c2⟩:=cs e2;clear cs cv ca;obtain⟨st,val,pt,du,ry,bas,pv⟩:=s
 try unfold slv at c1
 try unfold slv at c2
 dsimp only at c1 c2;obtain⟨Z,hZ⟩:∃ Z,zO val=Z:=⟨_,rfl⟩;rw[hZ] at c1 c2;clear hZ;cbv;refine cA c1 ?_;cbv;refine bT rfl ?_;cbv;refine cA c2 ?_;cbv
 (refine rC ?_;cbv)
 exact zK htru
end Go.Proofs.YtfainocfaddbdaaGreat
