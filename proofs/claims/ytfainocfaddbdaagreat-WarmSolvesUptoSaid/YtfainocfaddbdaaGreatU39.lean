/- A part of the proof: FmE, FmF, FmG. -/
import Derived.Test.YtfainocfaddbdaaGreatU38
set_option linter.all false
namespace Go.Proofs.YtfainocfaddbdaaGreat
open Go
set_option maxRecDepth 100000
set_option maxHeartbeats 8000000
theorem tyFr:ty 123=.sli 2 32 [.nil,.int .u64 (fun _=>0)]:=by cbv
def elR (l:List FR) (v k:Nat):List FR×Bool:=match elS l v k with
 |none=>([],false)| some o=>(o,true)
theorem zAO (L:List FR)(p:FR):enc frc L++yI [frc p]=enc frc (L++[p]):=by simp[enc,yI]
theorem zQD {p q:FR}{v:Nat}:(cM p q v).length=p.c.length:=by unfold cM;rw[y8,dC]
theorem zZG {C:List Int}{W u:Nat}{x:Int}(hC:C.length=W)(hx:C[u]?=some x):(C.take u++List.replicate (W-u) 0).set u x=C.take (u+1)++List.replicate (W-(u+1)) 0:=by
 have hu:=yO hx;have h1:(C.take u).length=u:=by rw[y4];omega
 rw[zFH _ _ oM,h1,dM,rA,hx,show W-u=(W-(u+1))+1 by omega,zIT];simp
theorem yAD (l:List FR)(v k W:Nat)(h:LOk l W)(hv:v<W)(hW:W<2^30)(hk:k<2^30):zG 106 [frv l,.int .i64 (fun _=>(v:Int)),.int .i64 (fun _=>(k:Int))] (.tup [frv (elR l v k).1,.bool (fun _=>(elR l v k).2)]):=by
 have hl:=h.len;have hat:∀ (u i:Nat) p,u<W->l[i]?=some p->p.c[u]?=some (p.at' u):=fun u i p hu hp=>FR.get (by rw[h.w p (zZ hp)];exact hu);have hab:∀ (u i:Nat) p,u<W->l[i]?=some p->(p.at' u).natAbs<=1073741824:=fun u i p hu hp=>h.ab p (zZ hp) _ (zZ (hat u i p hu hp));have hfr:∀ (i:Nat) p,l[i]?=some p->p.fr<2^64:=fun i p hp=>h.fr p (zZ hp);have hcl:∀ (i:Nat) p,l[i]?=some p->p.c.length=W:=fun i p hp=>h.w p (zZ hp);have hE:elR l v k=(match elS l v k with|none=>([],false)|some o=>(o,true)):=rfl;obtain⟨R,hR⟩:∃ R,elS l v k=R:=⟨_,rfl⟩;rw[hR] at hE;obtain⟨⟨R1,R2⟩,hRR⟩:∃ R,elR l v k=R:=⟨_,rfl⟩;rw[hRR] at hE;rw[hRR];have hR':elI v k l (l.drop 0) (([]:List FR)++(l.drop 0).filter fun p=>decide (p.at' v=0))=R:=by rw[<-hR];rfl
 dsimp only;clear hRR hR h;obtain⟨n,hn⟩:∃ n,l.length=n:=⟨_,rfl⟩;rw[hn] at hl;obtain⟨M,hM⟩:∃ K:Nat->Nat,∀ i,K i=1048576+i*1048576:=⟨_,fun _=>rfl⟩;have hM1:∀ i,M (i+1)=M i+1048576:=fun i=>by rw[hM,hM];omega
 have hM2:∀ i,i<n->M i<=1099511627776:=fun i hi=>by rw[hM];omega
 have hM0:M 0=1048576:=by rw[hM]
 refine sF Tryz.f106 ?_;cbv;refine zX (σ:=Nat×List FR) (fun s=>⟨[(0,frv l),(1,.int .i64 (fun _=>(v:Int))),(2,.int .i64 (fun _=>(k:Int))),(8,.osl 500 2 (fun _=>0) (fun _=>s.2.length)),(9,.int .i64 (fun _=>(s.1:Int)))],[(500,.arr 2 (fun _=>enc frc s.2))]⟩)
  (fun s=>s.1<=n/\s.2.length<=s.1/\elI v k l (l.drop 0) (s.2++(l.drop s.1).filter fun p=>decide (p.at' v=0))=R) (fun s=>n-s.1) (0,[]) ⟨wH _,zV _,hR'⟩ (.trans (.adoptT 500 2 8 rfl rfl) (wkZ)) ?_
 clear hR';intro s hs;obtain⟨i,out⟩:=s;obtain⟨h1,h2,h3⟩:=hs;dsimp only at h1 h2 h3;cbv;refine zD (fun h5=>?_) (fun h5=>?_)
 ·have hlt:i<l.length:=j8 h5;obtain⟨p,hp⟩:=zO hlt;have hc:=hat v i p hv hp;rw[wK hp,zE8] at h3;obtain⟨x,hx⟩:∃ x,p.at' v=x:=⟨_,rfl⟩;rw[hx] at h3 hc;cbv;refine xC hp vZ uW ?_;cbv;refine xC hc fZ aQ ?_;cbv;refine zD (fun h=>?_) (fun h=>?_)
  ·(have h':x=0:=om;rw[if_pos (decide_eq_true h')] at h3;have h3':elI v k l (l.drop 0) ((out++[p])++(l.drop (i+1)).filter fun p=>decide (p.at' v=0))=R:=by rw[<-h3];simp);clear h3
   cbv;refine xC hp vZ uW ?_;cbv;refine aO tyFr ?_;cbv;exact⟨zC om om,(i+1,out++[p]),⟨om,by simp;omega,h3'⟩,om,.le (by cbv;repeat' first|exact trivial|exact lR|exact zE om|exact zU rfl (by simp[zK,yI])|apply zN) (by cbv;exact⟨zB (by exact zAO out p),trivial⟩) rfl⟩
  {have h':¬x=0:=om;rw[if_neg (by rw[decide_eq_false h'];decide)] at h3;cbv;exact⟨zC om om,(i+1,out),⟨om,by show out.length<=i+1;omega,h3⟩,om,wkZ⟩}
 ·(have hi:i=l.length:=cV h5 oM;rw[hi,vG] at h3;have h3':elI v k l (l.drop 0) out=R:=by rw[<-h3];simp);have h2':out.length<=M 0:=by omega
  clear h3 h2 h1 h5 hi;cbv;refine zX (σ:=Nat×List FR) (fun s=>⟨[(0,frv l),(1,.int .i64 (fun _=>(v:Int))),(2,.int .i64 (fun _=>(k:Int))),(8,.osl 500 2 (fun _=>0) (fun _=>s.2.length)),(10,.int .i64 (fun _=>(s.1:Int)))],[(500,.arr 2 (fun _=>enc frc s.2))]⟩)
   (fun s=>s.1<=n/\s.2.length<=M s.1/\elI v k l (l.drop s.1) s.2=R) (fun s=>n-s.1) (0,out) ⟨wH _,h2',h3'⟩ (wkZ) ?_
  clear h2' h3' i out;intro s hs;obtain⟨i,out⟩:=s;obtain⟨h1,h2,h3⟩:=hs;dsimp only at h1 h2 h3;cbv;refine zD (fun h5=>?_) (fun h5=>?_)
  ·(have hlt:i<l.length:=j8 h5;obtain⟨p,hp⟩:=zO hlt;have hpv:=hat v i p hv hp;have hpa:=hab v i p hv hp;have hpl:=hcl i p hp;have hpf:=hfr i p hp;rw[wK hp,elI] at h3;have h3':(match elJ p v k (l.drop 0) out with|none=>none|some o=>elI v k l (l.drop (i+1)) o)=R:=h3;have h2':out.length<=M i+0:=by omega);clear h3 h2 h5
   cbv;refine zX (σ:=Nat×List FR) (fun s=>⟨[(0,frv l),(1,.int .i64 (fun _=>(v:Int))),(2,.int .i64 (fun _=>(k:Int))),(8,.osl 500 2 (fun _=>0) (fun _=>s.2.length)),(10,.int .i64 (fun _=>(i:Int))),(11,.int .i64 (fun _=>(s.1:Int)))],[(500,.arr 2 (fun _=>enc frc s.2))]⟩)
    (fun s=>s.1<=n/\s.2.length<=M i+s.1/\(match elJ p v k (l.drop s.1) s.2 with|none=>none|some o=>elI v k l (l.drop (i+1)) o)=R) (fun s=>n-s.1) (0,out) ⟨wH _,h2',h3'⟩ (wkZ) ?_
   clear h2' h3';intro s hs;obtain⟨j,out⟩:=s;obtain⟨h2,h3,h4⟩:=hs;dsimp only at h2 h3 h4;cbv;refine zD (fun h5=>?_) (fun h5=>?_)
   ·(have hlt:j<l.length:=j8 h5;obtain⟨q,hq⟩:=zO hlt;have hqv:=hat v j q hv hq;have hqa:=hab v j q hv hq;have hql:=hcl j q hq;have hqf:=hfr j q hq;rw[wK hq,elJ] at h4;have hcb:=yAF (p.fr ||| q.fr) (c5 hpf hqf);have hio:=zVS hpf hqf;have hble:=zO2 (c5 hpf hqf);have hec:elC p q v k↔0<p.at' v/\q.at' v<0/\jR (p.fr ||| q.fr)<=k+1:=oT;have hskip:¬elC p q v k->(match elJ p v k (l.drop (j+1)) out with|none=>none|some o=>elI v k l (l.drop (i+1)) o)=R:=fun e=>by rw[if_neg e] at h4;exact h4);have hpu:=fun u hu=>hat u i p hu hp
    have hqu:=fun u hu=>hat u j q hu hq;have hpua:=fun u hu=>hab u i p hu hp;have hqua:=fun u hu=>hab u j q hu hq;obtain⟨x,hx⟩:∃ x,p.at' v=x:=⟨_,rfl⟩;obtain⟨y,hy⟩:∃ x,q.at' v=x:=⟨_,rfl⟩;obtain⟨B1,hB1⟩:∃ x,jR (p.fr ||| q.fr)=x:=⟨_,rfl⟩;rw[hx] at hpv hpa hec;rw[hy] at hqv hqa hec;rw[hB1] at hcb hble hec;cbv;refine zT 35 (by cbv) ?_;cbv;refine xC hp vZ uW ?_;cbv;refine xC hpv fZ aQ ?_;cbv;refine yD (fun e1=>?_) (fun e1=>?_);{have hno:=hskip (fun e=>by have:=(hec.1 e).1;(try dsimp only [zI] at *);omega);cbv;exact⟨zC om om,(j+1,out),⟨om,by show out.length<=M i+(j+1);omega,hno⟩,om,wkZ⟩};cbv;refine xC hq vZ uW ?_;cbv;refine xC hqv fZ aQ ?_;cbv;refine yD (fun e2=>?_) (fun e2=>?_);{have hno:=hskip (fun e=>by have:=(hec.1 e).2.1;(try dsimp only [zI] at *);omega);cbv;exact⟨zC om om,(j+1,out),⟨om,by show out.length<=M i+(j+1);omega,hno⟩,om,wkZ⟩};cbv;refine xC hp vZ uW ?_;cbv;refine xC hq vZ uW ?_;cbv;refine bJ (by exact⟨zE hio,trivial⟩) hcb rfl ?_;cbv;refine⟨zC om om,?_⟩;cbv;refine zD (fun e3=>?_) (fun e3=>?_);{have hno:=hskip (fun e=>by have:=(hec.1 e).2.2;(try dsimp only [zI] at *);omega);cbv;exact⟨zC om om,(j+1,out),⟨om,by show out.length<=M i+(j+1);omega,hno⟩,om,wkZ⟩}
    (have hyes:elC p q v k:=hec.2 ⟨by (try dsimp only [zI] at *);omega,by (try dsimp only [zI] at *);omega,by (try dsimp only [zI] at *);omega⟩;rw[if_pos hyes] at h4;clear hskip hec hcb hB1 hble e1 e2 e3 hyes;obtain⟨C,hC⟩:∃ C,cM p q v=C:=⟨_,rfl⟩;have hCl:C.length=W:=by rw[<-hC,zQD];exact hpl);have hCg:∀ u,u<W->C[u]?=some (p.at' u * -y+q.at' u*x):=fun u hu=>by have h1:=zGK (p:=p) (q:=q) (v:=v) u (by rw[hpl,hql]);rw[hC,hx,hy] at h1;rw[<-h1];exact yR oM
    (have hmul:∀ a b:Int,a.natAbs<=1073741824->b.natAbs<=1073741824->(a*b).natAbs<=1152921504606846976:=fun a b ha hb=>by rw[zBR];exact s8 ha hb);have hCb:∀ z,z∈C->z.natAbs<9223372036854775807:=fun z hz=>by
     (obtain⟨u,hu⟩:=mL.1 hz;have hul:u<W:=by have:=yO hu;omega);rw[hCg u hul] at hu
     obtain rfl:=vC hu;have h1:=hmul (p.at' u) (-y) (hpua u hul) oM;have h2:=hmul (q.at' u) x (hqua u hul) hpa;omega
    (have crd:=zWR C hCb oM;rw[hC] at h4;have hpair:t5 p q v=⟨(dI C).1,p.fr ||| q.fr⟩:=by unfold t5;rw[hC]);rw[hpair] at h4
    obtain⟨⟨D1,D2⟩,hD⟩:∃ D,dI C=D:=⟨_,rfl⟩;rw[hCl] at crd;rw[hD] at h4 crd;dsimp only at h4 crd;have hDl:D1.length=W:=by
     (have:(dI C).1.length=C.length:=by unfold dI;exact o7);rw[hD] at this
     rw[<-hCl];exact this
    (obtain⟨CL,hCL⟩:∃ CL:Nat->List Int,∀ u,CL u=C.take u++List.replicate (W-u) 0:=⟨_,fun _=>rfl⟩;have hCs:∀ u,u<W->(CL u).set u (p.at' u * -y+q.at' u*x)=CL (u+1):=fun u hu=>by rw[hCL,hCL];exact zZG hCl (hCg u hu));have hCe:CL W=C:=by rw[hCL,dM,yN oM];simp
    have hC0:List.replicate (W:Int).toNat (x6 [PV.int .i64 (fun _=>0)])=enc cz (CL 0):=by rw[hCL,show (W:Int).toNat=W by omega];show _=enc cz ([]++List.replicate W 0);unfold enc;rw[aU,zFA];rfl
    (have hCll:∀ u,u<=W->(CL u).length=W:=fun u hu=>by rw[hCL,wP,y4,lI];omega);have hlenp:((enc cz p.c).length:Int)=(W:Int):=by rw[zK,hpl]
    (have hln2:((enc cz p.c).length:Int).toNat=W:=by rw[hlenp];omega);have hC0':List.replicate ((enc cz p.c).length:Int).toNat (x6 [PV.int .i64 (fun _=>0)])=enc cz (CL 0):=by rw[hlenp];exact hC0
    obtain⟨F0,hF0⟩:∃ x,p.fr ||| q.fr=x:=⟨_,rfl⟩;rw[hF0] at h4 hio;clear hC hCL hD hpair hF0 hCb hat hab hfr hcl hpl hql hpf hqf;cbv;refine xC hp vZ uW ?_;cbv;refine⟨yB (by rw[hlenp];(try dsimp only [zI] at *);omega) (by rw[hlenp];(try dsimp only [zI] at *);omega),vF (by rw[hlenp];(try dsimp only [zI] at *);omega) (Int.le_refl _),?_⟩;refine zX (σ:=Nat) (fun u=>⟨[(0,frv l),(1,.int .i64 (fun _=>(v:Int))),(2,.int .i64 (fun _=>(k:Int))),(8,.osl 500 2 (fun _=>0) (fun _=>out.length)),(10,.int .i64 (fun _=>(i:Int))),(11,.int .i64 (fun _=>(j:Int))),(12,.osl 91 1 (fun _=>0) (fun _=>W)),(13,.int .i64 (fun _=>(u:Int)))],[(500,.arr 2 (fun _=>enc frc out)),(91,.arr 1 (fun _=>enc cz (CL u)))]⟩)
     (fun u=>u<=W) (fun u=>W-u) 0 (wH _) (.le (by cbv;repeat' first|exact trivial|exact lR|exact zU rfl hln2|apply zN) (by cbv;exact⟨zB rfl,zB hC0',trivial⟩) rfl) ?_
    intro u hu;cbv;refine zD (fun h=>?_) (fun h=>?_)
    ·(have huW:u<W:=om;have hps:=hpu u huW;have hqs:=hqu u huW;have hpsa:=hpua u huW;have hqsa:=hqua u huW;have hcs:=hCs u huW;have hll:=hCll u oM;obtain⟨a,ha⟩:∃ a,p.at' u=a:=⟨_,rfl⟩;obtain⟨b,hb⟩:∃ a,q.at' u=a:=⟨_,rfl⟩;rw[ha] at hps hpsa hcs;rw[hb] at hqs hqsa hcs;have hm1:=hmul a (0-y) hpsa oM;have hm2:=hmul b x hqsa hpa;obtain⟨L0,hL0⟩:∃ L,CL u=L:=⟨_,rfl⟩;obtain⟨L1,hL1⟩:∃ L,CL (u+1)=L:=⟨_,rfl⟩;rw[hL0] at hcs hll;rw[hL1] at hcs;obtain⟨z0,hz0⟩:=zO (show u<L0.length by omega);have hfin:a*(0-y)+b*x=a * -y+b*x:=by rw[Int.zero_sub]);rw[hL0]
     clear h4 crd hmul ha hb;cbv;refine zT 38 (by cbv) ?_;cbv;refine xC hp vZ uW ?_;cbv;refine xC hps fZ aQ ?_;cbv;refine xC hq vZ uW ?_;cbv;refine xC hqv fZ aQ ?_;cbv;refine⟨zC om om,zC om om,?_⟩;cbv;refine xC hq vZ uW ?_;cbv;refine xC hqs fZ aQ ?_;cbv;refine xC hp vZ uW ?_;cbv;refine xC hpv fZ aQ ?_;cbv;refine⟨zC om om,zC om om,zQ om om,oB hz0 om ?_⟩;cbv;exact⟨zC om om,u+1,om,om,.le okZ (by cbv;exact⟨zB rfl,zB (by show (enc cz L0).set (0+u) _=enc cz (CL (u+1));rw[xA,hL1,<-hcs];exact zME hfin),trivial⟩) rfl⟩
    ·have hu':u=W:=om;subst hu';rw[hCe];clear hCs hCe hCll hC0 hCg hpu hqu hpua hqua hmul;cbv;refine yU (fun _=>91) (.refl _) rfl (by exact⟨zU rfl rfl,trivial⟩) crd okR rfl rfl rfl rfl rfl rfl rfl rfl ?_;cbv;refine z6 (fun e=>?_) (fun e=>?_)
     ·(rw[if_pos e] at h4;have hel:∀ X:List (List D),X=enc cz D1->enc frc out++[[D.sl X,D.int .u64 (ior .u64 (p.fr:Int) (q.fr:Int))]]=enc frc (out++[⟨D1,F0⟩]):=fun X hX=>by rw[hX,hio];exact zAO out ⟨D1,F0⟩);clear crd
      cbv;refine mH 15 (.frz 91 rfl rfl (by cbv;repeat' first|exact trivial|exact yG (by simp[zK];omega)|apply zN) (by cbv;repeat' first|exact trivial|exact yG (by simp[zK];omega)|apply zN)) (by cbv) ?_;cbv;refine xC hp vZ uW ?_;cbv;refine xC hq vZ uW ?_;cbv;refine zKY tyFr rfl rfl rfl (by simp[zK,yI]) rfl ⟨by simp[yI,x6]⟩ (yB (by simp[yI,zK] <;> omega) (by simp[yI,zK] at *;(try dsimp only [zI] at *);have:=hM2 i oM;omega)) rfl ?_;cbv;exact⟨zC om om,(j+1,out++[⟨D1,F0⟩]),⟨om,by show (out++[_]).length<=M i+(j+1);rw[wP];show out.length+1<=_;omega,h4⟩,om,.le (by cbv;repeat' first|exact trivial|exact lR|exact zE om|exact zU rfl (by simp[zK,yI])|apply zN) (by cbv;exact⟨zB (by exact hel _ (by rw[uS,yN (by rw[zK];omega)])),trivial⟩) rfl⟩
     ·rw[if_neg (by rw[e];decide)] at h4;dsimp only at h4;rw[<-h4] at hE;have r1:R1=[]:=congrArg Prod.fst hE;have r2:R2=false:=congrArg Prod.snd hE;subst r1 r2;cbv
      (refine rC ?_;cbv)
      exact okA
   {have hj:j=l.length:=cV h5 oM;rw[hj,vG,elJ] at h4;have h4':elI v k l (l.drop (i+1)) out=R:=h4;clear h4;cbv;exact⟨zC om om,(i+1,out),⟨om,by show out.length<=M (i+1);have:=hM1 i;omega,h4'⟩,om,wkZ⟩}
  {have hi:i=l.length:=cV h5 oM;rw[hi,vG,elI] at h3;rw[<-h3] at hE;have r1:R1=out:=congrArg Prod.fst hE;have r2:R2=true:=congrArg Prod.snd hE;subst r1 r2;cbv;refine zK5 _ (.trans (wkZ (ps':=⟨[(6,.osl 500 2 (fun _=>0) (fun _=>R1.length)),(7,.tt)],[(500,.arr 2 (fun _=>enc frc R1))]⟩)) (.frz 500 rfl rfl (by cbv;repeat' first|exact trivial|exact yG (by simp[zK])|apply zN) (by cbv;repeat' first|exact trivial|apply zN))) rfl ?_;exact⟨zY (by simp[zK,yN]),xQ rfl,trivial⟩}
theorem zVW {α:Type}{p:α->List PV}{n:Nat}{l:List α}{a:α}{k:Int}{K:List PV->Prop}(j:Nat)(hk:k=(j:Int))(h:l[j]?=some a)(hf:∀ a,yV jN (p a)=true)(hn:∀ a,(p a).length=n)(hK:K (p a)):IdxOk n (fun _=>enc p l) (fun _=>k) K :=
 zM3 j hk (p a) (hf a) (hn a) (by unfold enc;rw[vU,h];rfl) hK
theorem zO0 {a b:Rat}:0<gJ a b↔b<a:=by unfold gJ;split;{rename_i h;exact⟨fun h1=>by omega,fun h1=>absurd h1 (by grind)⟩};{split;{rename_i h;exact⟨fun _=>h,fun _=>by decide⟩};{rename_i h;exact⟨fun h1=>by omega,fun h1=>absurd h1 h⟩}}
theorem zC4 {a b:Rat}:gJ a b<0↔a<b:=by unfold gJ;split;{rename_i h;exact⟨fun _=>h,fun _=>by decide⟩};{rename_i h;split;{exact⟨fun h1=>by omega,fun h1=>absurd h1 h⟩};{exact⟨fun h1=>by omega,fun h1=>absurd h1 h⟩}}
theorem zRX {a c:Int}(ha:a.natAbs<=1073741824)(hc:c.natAbs<=1073741824)(h0:a≠0):Fits 3 (pR (-c) a):=by rw[zHV];exact (uB (k:=1) (m:=1) (aL (by rw[Int.natAbs_neg];unfold B;omega) (zV 1)) (zKA (aL (by unfold B;omega) (zV 1)))).mono (by decide)
theorem cmpC {a b:Rat}(ha:Fits 4 a)(hb:Fits 4 b):zG 30 [rv (zJ a),rv (zJ b)] (.int .i64 (fun _=>gJ a b)):=by have:=s42 (zJ a) (zJ b) ((yF ha).mono (by decide)) ((yF hb).mono (by decide));rw[yY,yY] at this;exact this
structure BdG (f:Bool) (L:R) (o:Option Rat):Prop where
 some:f=true->∃ a,o=Option.some a/\L=zJ a/\Fits 3 a
 none:f=false->o=Option.none
theorem BdG.zero {L:R}:BdG false L Option.none:=⟨fun e=>(by cases e),fun _=>rfl⟩
theorem BdG.of {f:Bool}{L:R}{a:Rat}(h:L=zJ a)(hf:Fits 3 a)(he:f=true):BdG f L (Option.some a):=⟨fun _=>⟨a,rfl,h,hf⟩,fun e=>by rw[he] at e;cases e⟩
theorem zYG (l:List FR)(n:Nat)(h:LOk l (n+2))(hn:n<2^30):zG 107 [frv l,.int .i64 (fun _=>(n:Int))] (.tup [.int .i64 (fun _=>(((kO n l none none).1:Nat):Int)),rv (zJ (kO n l none none).2)]):=by
 refine sF Tryz.f107 ?_;have hl:=h.len;have hat:∀ (u i:Nat) p,u<n+2->l[i]?=some p->p.c[u]?=some (p.at' u):=fun u i p hu hp=>FR.get (by rw[h.w p (zZ hp)];exact hu);have hab:∀ (u i:Nat) p,u<n+2->l[i]?=some p->(p.at' u).natAbs<=1073741824:=fun u i p hu hp=>h.ab p (zZ hp) _ (zZ (hat u i p hu hp));obtain⟨T0,hR⟩:∃ T0,kO n l none none=T0:=⟨_,rfl⟩;rw[hR];obtain⟨N,hN⟩:∃ N,l.length=N:=⟨_,rfl⟩;rw[hN] at hl;have hz:zJ 0=⟨false,[],[]⟩:=mV;have st0:∃ lo hi,kO n (l.drop 0) lo hi=T0/\BdG false ⟨false,[],[]⟩ lo/\BdG false ⟨false,[],[]⟩ hi:=⟨none,none,hR,BdG.zero,BdG.zero⟩;obtain⟨S0,hS0⟩:∃ S0,T0.1=S0:=⟨_,rfl⟩;obtain⟨Z,hZ⟩:∃ Z,zJ T0.2=Z:=⟨_,rfl⟩;rw[hS0,hZ];clear h hR;cbv;refine zX (σ:=Nat×Bool×R×Bool×R) (fun s=>⟨[(0,frv l),(1,.int .i64 (fun _=>(n:Int))),(5,.ptr 5 0),(6,.bool (fun _=>s.2.1)),(7,.bool (fun _=>s.2.2.2.1)),(8,.ptr 8 0),(9,.ptr 9 0),(10,.int .i64 (fun _=>(s.1:Int)))],[(5,.box [.ff,.nil,.nil]),(8,.box [.bool (fun _=>s.2.2.1.neg),nat s.2.2.1.num,nat s.2.2.1.den]),(9,.box [.bool (fun _=>s.2.2.2.2.neg),nat s.2.2.2.2.num,nat s.2.2.2.2.den])]⟩)
  (fun s=>s.1<=N/\∃ lo hi,kO n (l.drop s.1) lo hi=T0/\BdG s.2.1 s.2.2.1 lo/\BdG s.2.2.2.1 s.2.2.2.2 hi) (fun s=>N-s.1) (0,false,⟨false,[],[]⟩,false,⟨false,[],[]⟩) ⟨wH _,st0⟩
  (.le (by cbv;repeat' first|exact trivial|exact lR|exact z5 rfl|apply zN) (by cbv;repeat' first|exact trivial|exact lR|exact z5 rfl|exact xB rfl|apply zN) rfl) ?_
 clear st0;intro s hs;obtain⟨i,low,L,high,H⟩:=s;obtain⟨h1,lo,hi,h2,h3,h4⟩:=hs;dsimp only at h1 h2 h3 h4;cbv;refine zD (fun h5=>?_) (fun h5=>?_)
 ·have hlt:i<l.length:=j8 h5;obtain⟨p,hp⟩:=zO hlt;have ha:=hat n i p oM hp;have hc:=hat (n+1) i p oM hp;have haa:=hab n i p oM hp;have hca:=hab (n+1) i p oM hp;rw[wK hp,kO] at h2;unfold FR.lim at h2;obtain⟨a,ha'⟩:∃ a,p.at' n=a:=⟨_,rfl⟩;obtain⟨c,hc'⟩:∃ a,p.at' (n+1)=a:=⟨_,rfl⟩;rw[ha',hc'] at h2;rw[ha'] at ha haa;rw[hc'] at hc hca;clear ha' hc';cbv;refine zT 18 (by cbv) ?_;cbv;refine xC hp vZ uW ?_;cbv;refine xC ha fZ aQ ?_;cbv;refine xC hp vZ uW ?_;cbv;refine⟨zC om om,?_⟩;cbv;refine zVW (n+1) om hc fZ aQ ?_;cbv;refine zD (fun e1=>?_) (fun e1=>?_)
  ·have e1':a=0:=om;rw[if_pos e1'] at h2;cbv;refine zD (fun e2=>?_) (fun e2=>?_)
   ·(have e2':c<0:=om;rw[if_pos e2'] at h2;have s1:S0=2:=by rw[<-hS0,<-h2]);have s2:Z=⟨false,[],[]⟩:=by rw[<-hZ,<-h2];exact hz
    subst s1 s2;cbv
    (refine rC ?_;cbv)
    exact⟨zE rfl,okA,trivial⟩
   {have e2':¬c<0:=om;rw[if_neg e2'] at h2;cbv;exact⟨zC om om,(i+1,low,L,high,H),⟨om,lo,hi,h2,h3,h4⟩,om,wkZ⟩}
  ·(have e1':¬a=0:=om;rw[if_neg e1'] at h2;have cf:=s43 (-c) a oM oM oM oM e1';have hvf:=zRX haa hca e1';obtain⟨v,hv⟩:∃ v,pR (-c) a=v:=⟨_,rfl⟩;rw[hv] at h2 cf hvf;obtain⟨V,hV⟩:∃ V,zJ v=V:=⟨_,rfl⟩;have cml:low=true->∃ b,lo=some b/\L=zJ b/\Fits 3 b/\zG 30 [rv V,rv L] (.int .i64 (fun _=>gJ v b)):=fun e=>by obtain⟨b,b1,b2,b3⟩:=h3.some e;exact⟨b,b1,b2,b3,by rw[<-hV,b2];exact cmpC (hvf.mono (by decide)) (b3.mono (by decide))⟩);have cmh:high=true->∃ b,hi=some b/\H=zJ b/\Fits 3 b/\zG 30 [rv V,rv H] (.int .i64 (fun _=>gJ v b)):=fun e=>by obtain⟨b,b1,b2,b3⟩:=h4.some e;exact⟨b,b1,b2,b3,by rw[<-hV,b2];exact cmpC (hvf.mono (by decide)) (b3.mono (by decide))⟩
   (rw[hV] at cf;have hV':=hV.symm;clear hV;have hneg:0-c=-c:=by omega);cbv
   refine⟨zC om om,wL rfl (by exact⟨zE hneg,lR,trivial⟩) cf rfl ?_⟩;cbv;refine zD (fun e2=>?_) (fun e2=>?_)
   ·have e2':0<a:=om;rw[if_pos e2'] at h2;cbv;refine xK (fun e3=>?_) (fun e3=>?_)
    ·obtain⟨b,b1,b2,b3,b4⟩:=cml e3;rw[b1] at h2;unfold zMH at h2;dsimp only at h2;obtain⟨g,hg⟩:∃ g,gJ v b=g:=⟨_,rfl⟩;rw[hg] at b4;clear cml cmh;cbv;refine cA b4 ?_;cbv;refine zD (fun e4=>?_) (fun e4=>?_);{have e4':b<v:=zO0.1 (by rw[hg];exact om);rw[if_pos e4'] at h2;cbv;exact⟨zC om om,(i+1,true,V,high,H),⟨om,some v,hi,h2,.of hV' hvf rfl,h4⟩,om,.le (by cbv;repeat' first|exact trivial|exact lR|exact xQ rfl|exact zE om|apply zN) okZ rfl⟩}
     ·(have e4':¬b<v:=fun e=>by have:=zO0.2 e;rw[hg] at this;exact absurd this om);rw[if_neg e4'] at h2
      cbv;exact⟨zC om om,(i+1,true,L,high,H),⟨om,some b,hi,h2,.of b2 b3 rfl,h4⟩,om,.le (by cbv;repeat' first|exact trivial|exact lR|exact xQ rfl|exact zE om|apply zN) okZ rfl⟩
    {have hlo:=h3.none e3;rw[hlo] at h2;clear cml cmh;cbv;exact⟨zC om om,(i+1,true,V,high,H),⟨om,some v,hi,h2,.of hV' hvf rfl,h4⟩,om,.le (by cbv;repeat' first|exact trivial|exact lR|exact xQ rfl|exact zE om|apply zN) okZ rfl⟩}
   ·have e2':¬0<a:=om;rw[if_neg e2'] at h2;cbv;refine xK (fun e3=>?_) (fun e3=>?_)
    ·obtain⟨b,b1,b2,b3,b4⟩:=cmh e3;rw[b1] at h2;unfold zMJ at h2;dsimp only at h2;obtain⟨g,hg⟩:∃ g,gJ v b=g:=⟨_,rfl⟩;rw[hg] at b4;clear cml cmh;cbv;refine cA b4 ?_;cbv;refine zD (fun e4=>?_) (fun e4=>?_);{have e4':v<b:=zC4.1 (by rw[hg];exact om);rw[if_pos e4'] at h2;cbv;exact⟨zC om om,(i+1,low,L,true,V),⟨om,lo,some v,h2,h3,.of hV' hvf rfl⟩,om,.le (by cbv;repeat' first|exact trivial|exact lR|exact xQ rfl|exact zE om|apply zN) okZ rfl⟩}
     ·(have e4':¬v<b:=fun e=>by have:=zC4.2 e;rw[hg] at this;exact absurd this om);rw[if_neg e4'] at h2
      cbv;exact⟨zC om om,(i+1,low,L,true,H),⟨om,lo,some b,h2,h3,.of b2 b3 rfl⟩,om,.le (by cbv;repeat' first|exact trivial|exact lR|exact xQ rfl|exact zE om|apply zN) okZ rfl⟩
    {have hhi:=h4.none e3;rw[hhi] at h2;clear cml cmh;cbv;exact⟨zC om om,(i+1,low,L,true,V),⟨om,lo,some v,h2,h3,.of hV' hvf rfl⟩,om,.le (by cbv;repeat' first|exact trivial|exact lR|exact xQ rfl|exact zE om|apply zN) okZ rfl⟩}
 ·have hi':i=l.length:=cV h5 oM;rw[hi',vG,kO] at h2;have hlow:=h3.some;have hhigh:=h4.some;have hlow0:=h3.none;have hhigh0:=h4.none;clear h3 h4 hat hab;cbv;refine xK (fun e1=>?_) (fun e1=>?_)
  ·obtain⟨a,a1,a2,a3⟩:=hlow e1;rw[a1] at h2;cbv;refine xK (fun e2=>?_) (fun e2=>?_)
   ·obtain⟨b,b1,b2,b3⟩:=hhigh e2;rw[b1] at h2;have cm:=cmpC (b3.mono (show 3<=4 by decide)) (a3.mono (show 3<=4 by decide));rw[<-a2,<-b2] at cm;obtain⟨g,hg⟩:∃ g,gJ b a=g:=⟨_,rfl⟩;rw[hg] at cm;replace h2:(if b<a then ((2,0):Nat×Rat) else (1,a))=T0:=h2;cbv;refine cA cm ?_;cbv;refine zD (fun e3=>?_) (fun e3=>?_)
    ·(have e3':b<a:=zC4.1 (by rw[hg];exact om);rw[if_pos e3'] at h2;have s1:S0=2:=by rw[<-hS0,<-h2]);have s2:Z=⟨false,[],[]⟩:=by rw[<-hZ,<-h2];exact hz
     subst s1 s2;cbv
     (refine rC ?_;cbv)
     exact⟨zE rfl,okA,trivial⟩
    ·(have e3':¬b<a:=fun e=>by have:=zC4.2 e;rw[hg] at this;exact absurd this om);rw[if_neg e3'] at h2
     (have s1:S0=1:=by rw[<-hS0,<-h2]);have s2:Z=L:=by rw[<-hZ,<-h2,a2]
     subst s1 s2;cbv;refine z6 (fun e4=>?_) (fun e4=>by rw[e1] at e4;cases e4);cbv;refine zT 2 (by cbv) ?_;cbv
     (refine rC ?_;cbv)
     exact⟨zE rfl,okA,trivial⟩
   ·(rw[hhigh0 e2] at h2;have s1:S0=1:=by rw[<-hS0,<-h2];rfl);have s2:Z=L:=by rw[<-hZ,<-h2,a2];rfl
    subst s1 s2;cbv;refine z6 (fun e4=>?_) (fun e4=>by rw[e1] at e4;cases e4);cbv;refine zT 2 (by cbv) ?_;cbv
    (refine rC ?_;cbv)
    exact⟨zE rfl,okA,trivial⟩
  ·(rw[hlow0 e1] at h2;have s1:S0=3:=by rw[<-hS0,<-h2];rfl);have s2:Z=⟨false,[],[]⟩:=by rw[<-hZ,<-h2];exact hz
   subst s1 s2;cbv;refine z6 (fun e4=>by rw[e1] at e4;cases e4) (fun e4=>?_);cbv
   (refine rC ?_;cbv)
   exact⟨zE rfl,okA,trivial⟩
theorem zHQ {p:FR}{v k:Nat}:∀ {l out o:List FR},elJ p v k l out=some o->o.length<=out.length+(if 0<p.at' v then (l.filter fun q=>decide (q.at' v<0)).length else 0)
 |[],out,o,h=>by rw[elJ] at h;obtain rfl:=vC h;omega
 |q::r,out,o,h=>by rw[elJ] at h;rw[zE8];split at h;{rename_i hc;split at h;{have ih:=zHQ h;rw[wP,x7,f9] at ih;rw[if_pos hc.1,if_pos (decide_eq_true hc.2.1),x7];rw[if_pos hc.1] at ih;omega};{cases h}};{have ih:=zHQ h;by_cases hp:0<p.at' v;{rw[if_pos hp] at ih ⊢;split;{rw[x7];omega};{exact ih}};{rw[if_neg hp] at ih ⊢;exact ih}}
theorem zOQ {v k:Nat}{l:List FR}:∀ {ps out o:List FR},elI v k l ps out=some o->o.length<=out.length+(ps.filter fun q=>decide (0<q.at' v)).length*(l.filter fun q=>decide (q.at' v<0)).length
 |[],out,o,h=>by rw[elI] at h;obtain rfl:=vC h;simp
 |p::r,out,o,h=>by
  rw[elI] at h;cases hj:elJ p v k l out with
  |none=>rw[hj] at h;cases h
  |some o1 =>
   rw[hj] at h;have h1:=zHQ hj;have ih:=zOQ (ps:=r) h;rw[zE8];by_cases hp:0<p.at' v;{rw[if_pos hp] at h1;rw[if_pos (decide_eq_true hp),x7,Nat.succ_mul];omega};{rw[if_neg hp] at h1;rw[if_neg (by rw[decide_eq_false hp];decide)];omega}
theorem zV4 {l m:List FR}{v k W:Nat}(h:LOk l W)(hs:elS l v k=some m)(hm:l.length+prs l v<=1048576):LOk m W/\m.length<=l.length+prs l v:=by
 unfold elS at hs;have hl:=zOQ hs;obtain⟨_,_,h3⟩:=zHR hs;have hf:=zBO (fun p:FR=>decide (p.at' v=0)) l;have hlen:m.length<=l.length+prs l v:=by unfold prs;omega
 have key:∀ p,p∈m->p.c.length=W/\(∀ x,x∈p.c->x.natAbs<=1073741824)/\p.fr<2^64:=fun p hp=>by rcases h3 p hp with hp|⟨a,b,ha,hb,hc,rfl,hr⟩;{have:=(List.mem_filter.1 hp).1;exact⟨h.w p this,h.ab p this,h.fr p this⟩};{obtain⟨e1,_,e3⟩:=zHE hr;refine⟨?_,e3,c5 (h.fr a ha) (h.fr b hb)⟩;show (dI (cM a b v)).1.length=W;rw[e1];unfold cM;rw[y8,dC,h.w a ha]}
 exact⟨⟨by omega,fun p hp=>(key p hp).1,fun p hp=>(key p hp).2.1,fun p hp=>(key p hp).2.2⟩,hlen⟩
theorem zQA {W:Nat}{fs:List F}{l:List FR}(h:rY W fs 0 []=some l)(hl:fs.length<=62):LOk l (W+1)/\l.length=fs.length:=by
 obtain⟨h1,_,h3⟩:=zAP h;simp only[f9,xA] at h1 h3;have key:∀ p,p∈l->p.c.length=W+1/\(∀ x,x∈p.c->x.natAbs<=1073741824)/\p.fr<2^64:=fun p hp=>by
  (obtain⟨i,hi⟩:=mL.1 hp;have hil:i<fs.length:=by have:=yO hi;omega);obtain⟨f,hf⟩:=zO hil
  obtain⟨g1,g2⟩:=h3 i f hf;rw[hi] at g1;obtain rfl:=vC g1;obtain⟨d1,d2,_⟩:=zHW g2;exact⟨d1,d2,gB (by decide) oM⟩
 exact⟨⟨by omega,fun p hp=>(key p hp).1,fun p hp=>(key p hp).2.1,fun p hp=>(key p hp).2.2⟩,h1⟩
theorem DoneE.step {n:Nat}{done:List Bool}{E:List Nat}{v:Nat}(hd:DoneE n done E)(hvn:v<n)(hdv:done.getD v false=false):DoneE n (done.set v true) (v::E):=by
 have hvE:v∉E:=fun hm=>by rw[(hd.iff v hvn).2 hm] at hdv;cases hdv
 refine⟨by rw[kD];exact hd.len,tF.2 ⟨hvE,hd.nd⟩,fun w hw=>?_,fun w hw=>?_⟩;{rw[yC,kV];by_cases e:v=w;{subst e;rw[if_pos rfl,if_pos (by rw[hd.len];exact hw)];simp};{rw[if_neg e,<-yC,hd.iff w hw];constructor;{exact fun h=>xI _ h};{intro h;rcases z9.1 h with h|h;{exact absurd h.symm e};{exact h}}}};{rcases z9.1 hw with rfl|hw;{exact hvn};{exact hd.lt w hw}}
theorem DoneE.zero {n:Nat}:DoneE n (List.replicate n false) []:=⟨by simp,.nil,fun v hv=>by simp[yC,hv],fun v hv=>absurd hv (by simp)⟩
end Go.Proofs.YtfainocfaddbdaaGreat
