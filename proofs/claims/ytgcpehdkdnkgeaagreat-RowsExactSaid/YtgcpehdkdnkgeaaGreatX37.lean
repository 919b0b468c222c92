/- A part of the proof: EvB, EvC, EvD. -/
import Derived.Test.YtgcpehdkdnkgeaaGreatX36
import Derived.Test.YtgcpehdkdnkgeaaGreatX31
set_option linter.all false
namespace Go.Proofs.YtgcpehdkdnkgeaaGreat
open Go
set_option maxRecDepth 100000
set_option maxHeartbeats 4000000
theorem zAL (f:F):∀ (us:List F) (l:List Rat),xJ (us++[f]) l=xJ us l++[uZ (f.at (xr (xJ us l))) 0]
 | [],l=>rfl
 | g::r,l=>by
  rw[List.cons_append]
  unfold xJ
  exact zAL f r _
structure VSeq (x:FGrp) (l:List Rat) (V:Nat→List Rat):Prop where
 v0:V 0=l
 v1:∀ (j:Nat) f,x.us[j]?=some f→V (j+1)=V j++[uZ (f.at (xr (V j))) 0]
 v9:V x.us.length=xJ x.us l
 len:∀ j,j≤x.us.length→(V j).length=l.length+j
 fit:∀ j q,q∈V j→Fits (2^24) q
theorem vseq {x:FGrp}(hx:x.small)(hw:∀ (i:Nat) (f:F),x.us[i]?=some f→f.wf ((x.n+i:Nat):Int)){l:List Rat}(hl:l.length=x.n){m:Nat}(hm:1≤m)(hm2:m≤2^10)(hf:∀ q,q∈l→Fits m q):∃ V,VSeq x l V:=by
 refine⟨fun j=>xJ (x.us.take j) l,rfl,fun j f h=>?_,by show xJ (x.us.take x.us.length) l=_;rw[List.take_length],fun j hj=>?_,fun j q hq=>?_⟩
 ·show xJ (x.us.take (j+1)) l=_
  rw[List.take_add_one,h]
  exact zAL f _ _
 ·show (xJ (x.us.take j) l).length=_
  rw[gK,List.length_take]
  omega
 ·have h4:=hx.us
  have hk:(x.us.take j).length≤4:=by rw[List.length_take];omega
  have:=zAM hm (us:=x.us.take j) (l:=l) (fun i f h=>by
   rw[hl]
   exact hw i f (by rw[List.getElem?_take] at h;split at h;exact h;cases h)) (fun f h=>hx.uf f (List.mem_of_mem_take h)) hf hk q hq
  refine this.mono ?_
  have e:(8:Nat) ^ (x.us.take j).length≤8 ^ 4:=Nat.pow_le_pow_right (by decide) hk
  calc (m+60) * 8 ^ (x.us.take j).length≤(2^10+60) * 8 ^ 4:=Nat.mul_le_mul (by omega) e
   _≤2^24:=by decide
theorem eK (x:FGrp)(l:List Rat)(hx:x.small)(hv:x.g.valid=true)(hz:x.g.sz (2^32))(hw:∀ (i:Nat) (f:F),x.us[i]?=some f→f.wf ((x.n+i:Nat):Int))(hl:l.length=x.n){m:Nat}(hm:1≤m)(hm2:m≤2^10)(hf:∀ q,q∈l→Fits m q) :
  zB 31 [gv x.g,rlv (l.map zC)] (.tup [rlv ((xJ x.us l).map zC),.int .i64 (fun _=>0)]):=by
 refine sF Tryz.f31 ?_
 have cv:=zMV x.g hz
 rw[hv] at cv
 have cc:∀ q,q∈l→zB 19 [rv (zC q)] (rv (zC q)):=fun q hq=>by
  have:=s47 (zC q) ((zU (hf q hq)).mono (by omega))
  rw[zY] at this
  exact this
 have n2:=hx.n2
 have u4:=hx.us
 obtain⟨V,Q⟩:=vseq hx hw hl hm hm2 hf
 have facts:∀ j,j<x.us.length→∃ (p:A) (y z:R),(x.us.map fA)[j]?=some p∧zB 32 [av p,rlv ((V j).map zC)] (.tup [rv y,.int .i64 (fun _=>0)])∧zB 51 [rv y,rv ⟨false,[],[]⟩] (rv z)∧(V (j+1)).map zC=(V j).map zC++[z]:=fun j hj=>by
  obtain⟨f,hfj⟩:=zS hj
  have hvl:=Q.len j (by omega)
  have hwf:=hw j f hfj
  have hfl:=hx.uf f (List.mem_of_getElem? hfj)
  rw[←hl,←hvl] at hwf
  have ce:=tO f (V j) hfl hwf (Q.fit j) (by decide) (by decide) (by decide) (by decide) (by omega)
  have cm:=s70 (zC (f.at (xr (V j)))) ⟨false,[],[]⟩ ((zU (uQ hfl (gI hwf (Q.fit j)))).mono (by decide)) ⟨by decide,by decide⟩
  rw[zY] at cm
  have e0:(⟨false,[],[]⟩:R).q=0:=rfl
  rw[e0] at cm
  exact⟨fA f,_,_,by rw[List.getElem?_map,hfj];rfl,ce,cm,by rw[Q.v1 j f hfj,List.map_append];rfl⟩
 have v0:=Q.v0
 have v9:=Q.v9
 have vl:=Q.len
 rw[←v9]
 have hU:x.g.us=x.us.map fA:=rfl
 have hUl:(x.us.map fA).length=x.us.length:=List.length_map ..
 have hn:x.g.n=(l.length:Int):=by rw[hl];rfl
 clear Q hw hf v9 hz hx hv
 generalize x.g=g at *
 obtain⟨gn,us,os⟩:=g
 dsimp only at hU hn
 subst hU hn
 have ccl:∀ (i:Nat) q,l[i]?=some q→(l.map zC)[i]?=some (zC q)∧(l.map zC).take (i+1)=(l.map zC).take i++[zC q]:=fun i q h=>by
  have:(l.map zC)[i]?=some (zC q):=by rw[List.getElem?_map,h];rfl
  exact⟨this,by rw[List.take_add_one,this];rfl⟩
 have cx:∀ i,i<l.length→∃ r,zB 19 [rv r] (rv r)∧(l.map zC)[i]?=some r∧(l.map zC).take (i+1)=(l.map zC).take i++[r]:=fun i h=>by
  obtain⟨q,hq⟩:=zS h
  exact⟨zC q,cc q (List.mem_of_getElem? hq),(ccl i q hq).1,(ccl i q hq).2⟩
 clear cc ccl
 have hXl:(l.map zC).length=l.length:=List.length_map ..
 have hv0:(V 0).map zC=(l.map zC).take l.length:=by rw[v0,←hXl,List.take_length]
 have vl':∀ j,j≤x.us.length→((V j).map zC).length=l.length+j:=fun j h=>by rw[List.length_map];exact vl j h
 obtain⟨W,hW⟩:∃ W:Nat→List R,∀ j,(V j).map zC=W j:=⟨_,fun _=>rfl⟩
 simp only[hW] at facts vl' hv0 ⊢
 clear hW vl v0
 generalize l.map zC=X at *
 generalize x.us.length=M at *
 generalize x.us.map fA=us at *
 generalize hln:l.length=n at *
 have hlx:X.length=n:=hXl
 have htl:∀ i,i≤n→(X.take i).length=i:=fun i h=>by rw[List.length_take];omega
 cbv
 refine cA cv ?_
 cbv
 refine qQ rfl ?_
 cbv
 refine zF (fun e=>?_) (fun e=>(e (by rw[zA];(try dsimp only [zG] at *);omega)).elim)
 cbv
 refine z4 (σ:=Nat) (fun i=>⟨[(1,rlv X),(2,.ptr 2 0),(6,.osl 6 3 (fun _=>0) (fun _=>(X.take i).length)),(7,.int .i64 (fun _=>(i:Int)))],[(2,.box [.int .i64 (fun _=>(n:Int)),alv us,alv os]),(6,.arr 3 (fun _=>enc rc (X.take i)))]⟩)
  (fun i=>i≤n) (fun i=>n - i) 0 (Nat.zero_le _)
  (.trans (wkZ (ps':=⟨[(1,rlv X),(2,.ptr 2 0),(6,.nil),(7,.int .i64 (fun _=>((0:Nat):Int)))],[(2,.box [.int .i64 (fun _=>(n:Int)),alv us,alv os])]⟩)) (.trans (.adoptT (ps:=⟨[(1,rlv X),(2,.ptr 2 0),(6,.nil),(7,.int .i64 (fun _=>((0:Nat):Int)))],[(2,.box [.int .i64 (fun _=>(n:Int)),alv us,alv os])]⟩) 6 3 6 rfl rfl) (wkZ))) ?_
 intro i hi'
 have hti:=htl i hi'
 cbv
 refine zF (fun h=>?_) (fun h=>?_)
 ·have hlt:i<n:=by rw[zA] at h;(try dsimp only [zG] at *);omega
  obtain⟨r,c1,g1,g2⟩:=cx i hlt
  clear cx facts vl'
  cbv
  refine yF g1 yU xE ?_
  cbv
  refine cA c1 ?_
  cbv
  refine aO qS ?_
  cbv
  exact⟨zH om om,i+1,(by show i+1≤n;omega),(by show n - (i+1)<n - i;omega),wkY (by cbv;repeat' first | exact trivial | exact lR | exact zE om | exact zW rfl (by first | rfl | (rw[g2];done) | (simp [zL,zA,htl,hlx];done) | (rw[g2];simp [zL,zA];done)) | exact zI (by first | rfl | (rw[g2];done) | (rw[g2];rfl) | (rw[←zT];rfl) | (rw[g2,←zT];rfl)) | apply And.intro)⟩
 have hin:i=n:=by rw[zA] at h;(try dsimp only [zG] at *);omega
 rw[hin]
 clear hin hti hi' h cx
 cbv
 refine z4 (σ:=Nat) (fun j=>⟨[(2,.ptr 2 0),(6,.osl 6 3 (fun _=>0) (fun _=>(W j).length)),(8,.int .i64 (fun _=>(j:Int)))],[(2,.box [.int .i64 (fun _=>(n:Int)),alv us,alv os]),(6,.log 3 (fun _=>enc rc (W j)))]⟩)
  (fun j=>j≤M) (fun j=>M - j) 0 (Nat.zero_le _) (.trans (.lend 6 8 rfl rfl trivial) (wkY (by cbv;repeat' first | exact trivial | exact lR | exact zE om | exact zW rfl (by first | rfl | (rw[hv0];done) | (simp [zL,zA,htl,hlx];done) | (rw[hv0];simp [zL,zA];done)) | exact zI (by first | rfl | (rw[hv0];done) | (rw[hv0];rfl) | (rw[←zT];rfl) | (rw[hv0,←zT];rfl)) | apply And.intro))) ?_
 intro j hj
 have lj:=vl' j hj
 cbv
 refine zF (fun h=>?_) (fun h=>?_)
 ·have hlt:j<M:=by rw[zA,hUl] at h;(try dsimp only [zG] at *);omega
  obtain⟨p,y,z,g1,c1,c2,g2⟩:=facts j hlt
  have hT:=wQ rc (W j)
  have hfr:=u5 rc (W j)
  clear facts vl'
  generalize W j=Wj at *
  cbv
  refine yF g1 vR uR ?_
  cbv
  refine uC (.lend 6 48 rfl rfl ?_) rfl ?_ c1 rfl ?_
  ·cbv
   repeat' first | exact trivial | exact⟨hfr⟩ | apply And.intro
  ·cbv
   exact⟨okA,zQ hT,trivial⟩
  cbv
  refine yQ rfl okA c2 rfl ?_
  cbv
  refine aL qS ?_
  cbv
  exact⟨zH om om,j+1,(by show j+1≤M;omega),(by show M - (j+1)<M - j;omega),wkY (by cbv;repeat' first | exact trivial | exact lR | exact zE om | exact zW rfl (by first | rfl | (rw[g2];done) | (simp [zL,zA,htl,hlx];done) | (rw[g2];simp [zL,zA];done)) | exact zI (by first | rfl | (rw[g2];done) | (rw[g2];rfl) | (rw[←zT];rfl) | (rw[g2,←zT];rfl)) | apply And.intro)⟩
 have hjn:j=M:=by rw[zA,hUl] at h;(try dsimp only [zG] at *);omega
 rw[hjn]
 clear hjn lj hj h facts vl'
 generalize W M=X' at *
 have hT:=wQ rc X'
 have hfr:=u5 rc X'
 cbv
 refine qW _ (.trans (.le (ps':=⟨[(4,.osl 6 3 (fun _=>0) (fun _=>X'.length)),(5,.int .i64 (fun _=>0))],[(6,.log 3 (fun _=>enc rc X'))]⟩) ?_ ?_ rfl) (.frz 6 rfl rfl ?_ ?_)) rfl ?_
 ·cbv
  exact okA
 ·cbv
  exact⟨zI rfl,trivial⟩
 ·cbv
  repeat' first | exact trivial | exact⟨hfr⟩ | apply And.intro
 ·cbv
  repeat' first | exact trivial | apply And.intro
 cbv
 exact⟨zQ hT,lR,trivial⟩
theorem cM {α β:Type}(g:α→β){l:List α}{i:Nat}{a:α}(h:l[i]?=some a):(l.take (i+1)).map g=(l.take i).map g++[g a]:=by rw[List.take_add_one,h];simp
theorem zAR (x:FGrp)(fs:List F)(l:List Rat)(hx:x.small)(hv:x.g.valid=true)(hz:x.g.sz (2^32))(hw:∀ (i:Nat) (f:F),x.us[i]?=some f→f.wf ((x.n+i:Nat):Int))(hl:l.length=x.n){m:Nat}(hm:1≤m)(hm2:m≤2^10)(hf:∀ q,q∈l→Fits m q)
  (h1:fs.length≤1000) (h2:∀ f,f∈fs→f.fl 43 7∧f.wf ((x.n+x.us.length:Nat):Int)) :
  zB 110 [gv x.g,alv (fs.map fA),rlv (l.map zC)] (.tup [rlv ((fs.map fun f=>f.at (xr (xJ x.us l))).map zC),.int .i64 (fun _=>0)]):=by
 refine sF Tryz.f110 ?_
 have cv:=eK x l hx hv hz hw hl hm hm2 hf
 obtain⟨V,Q⟩:=vseq hx hw hl hm hm2 hf
 have vfit:∀ q,q∈xJ x.us l→Fits (2^24) q:=fun q hq=>Q.fit x.us.length q (by rw[Q.v9];exact hq)
 have vlen:(xJ x.us l).length=x.n+x.us.length:=by rw[gK,hl]
 have n2:=hx.n2
 have u4:=hx.us
 clear Q
 generalize xJ x.us l=VV at *
 have ce:∀ i,i<fs.length→∃ (p:A) (y:R),(fs.map fA)[i]?=some p∧zB 32 [av p,rlv (VV.map zC)] (.tup [rv y,.int .i64 (fun _=>0)])∧((fs.take (i+1)).map fun f=>zC (f.at (xr VV)))=((fs.take i).map fun f=>zC (f.at (xr VV)))++[y]:=fun i hi=>by
  obtain⟨f,hfi⟩:=zS hi
  obtain⟨g1,g2⟩:=h2 f (List.mem_of_getElem? hfi)
  rw[←vlen] at g2
  have:=tO f VV g1 g2 vfit (by decide) (by decide) (by decide) (by decide) (by omega)
  exact⟨fA f,_,by rw[List.getElem?_map,hfi];rfl,this,cM _ hfi⟩
 obtain⟨W,hW⟩:∃ W:Nat→List R,∀ i,((fs.take i).map fun f=>zC (f.at (xr VV)))=W i:=⟨_,fun _=>rfl⟩
 have w0:W 0=[]:=by rw[←hW];rfl
 have wl:∀ i,i≤fs.length→(W i).length=i:=fun i h=>by rw[←hW,List.length_map,List.length_take];omega
 have w9:(fs.map fun f=>f.at (xr VV)).map zC=W fs.length:=by rw[←hW,List.take_length,List.map_map];rfl
 simp only[hW] at ce
 rw[w9]
 have hFl:(fs.map fA).length=fs.length:=List.length_map ..
 clear hW w9 h2 hf hw hx hv hz
 generalize fs.map fA=FS at *
 generalize fs.length=M at *
 generalize VV.map zC=X at *
 generalize l.map zC=LL at *
 generalize x.g=g at *
 obtain⟨gn,us,os⟩:=g
 cbv
 refine cA cv ?_
 cbv
 refine xT rfl ?_
 cbv
 refine z4 (σ:=Nat) (fun i=>⟨[(1,alv FS),(8,rlv X),(10,.osl 10 3 (fun _=>0) (fun _=>(W i).length)),(11,.int .i64 (fun _=>(i:Int)))],[(10,.arr 3 (fun _=>enc rc (W i)))]⟩)
  (fun i=>i≤M) (fun i=>M - i) 0 (Nat.zero_le _)
  (.trans (wkZ (ps':=⟨[(1,alv FS),(8,rlv X),(10,.nil),(11,.int .i64 (fun _=>((0:Nat):Int)))],[]⟩)) (.trans (.adoptT (ps:=⟨[(1,alv FS),(8,rlv X),(10,.nil),(11,.int .i64 (fun _=>((0:Nat):Int)))],[]⟩) 10 3 10 rfl rfl) (wkY (by cbv;repeat' first | exact trivial | exact lR | exact zE om | exact zW rfl (by first | rfl | (rw[w0];done) | (simp [zL,zA];done) | (rw[w0];simp [zL,zA];done)) | exact zI (by first | rfl | (rw[w0];done) | (rw[w0];rfl) | (rw[←zT];rfl) | (rw[w0,←zT];rfl)) | apply And.intro)))) ?_
 intro i hi'
 have hwi:=wl i hi'
 cbv
 refine zF (fun h=>?_) (fun h=>?_)
 ·have hlt:i<M:=by rw[zA,hFl] at h;(try dsimp only [zG] at *);omega
  obtain⟨p,y,g1,c1,g2⟩:=ce i hlt
  clear ce wl
  cbv
  refine yF g1 vR uR ?_
  cbv
  refine cA c1 ?_
  cbv
  refine aO qS ?_
  cbv
  exact⟨zH om om,i+1,(by show i+1≤M;omega),(by show M - (i+1)<M - i;omega),wkY (by cbv;repeat' first | exact trivial | exact lR | exact zE om | exact zW rfl (by first | rfl | (rw[g2];done) | (simp [zL,zA];done) | (rw[g2];simp [zL,zA];done)) | exact zI (by first | rfl | (rw[g2];done) | (rw[g2];rfl) | (rw[←zT];rfl) | (rw[g2,←zT];rfl)) | apply And.intro)⟩
 have hin:i=M:=by rw[zA,hFl] at h;(try dsimp only [zG] at *);omega
 rw[hin]
 clear hin hwi hi' h ce wl
 generalize W M=X' at *
 have hT:=wQ rc X'
 have hfr:=u5 rc X'
 cbv
 refine qW _ (.trans (.le (ps':=⟨[(6,.osl 10 3 (fun _=>0) (fun _=>X'.length)),(7,.int .i64 (fun _=>0))],[(10,.arr 3 (fun _=>enc rc X'))]⟩) ?_ ?_ rfl) (.frz 10 rfl rfl ?_ ?_)) rfl ?_
 ·cbv
  exact okA
 ·cbv
  exact⟨zI rfl,trivial⟩
 ·cbv
  repeat' first | exact trivial | exact⟨hfr⟩ | apply And.intro
 ·cbv
  repeat' first | exact trivial | apply And.intro
 cbv
 exact⟨zQ hT,lR,trivial⟩
theorem zHL (x:FGrp)(l:List Rat)(hx:x.small)(hv:x.g.valid=true)(hz:x.g.sz (2^32))(hw:∀ (i:Nat) (f:F),x.us[i]?=some f→f.wf ((x.n+i:Nat):Int))(hl:l.length=x.n){m:Nat}(hm:1≤m)(hm2:m≤2^10)(hf:∀ q,q∈l→Fits m q) :
  zB 89 [gv x.g,rlv (l.map zC)] (.tup [rlv ((x.us.map fun f=>f.at (xr (xJ x.us l))).map zC),.int .i64 (fun _=>0)]):=by
 refine sF Tryz.f89 ?_
 have cf:=zAR x x.us l hx hv hz hw hl hm hm2 hf (by have:=hx.us;omega) (fun f h=>by
  obtain⟨i,hi⟩:=cC h
  have hlt:=(List.getElem?_eq_some_iff.1 hi).1
  exact⟨hx.uf f h,(hw i f hi).mono (by omega)⟩)
 have e:gv x.g=.agg [.int .i64 (fun _=>(x.n:Int)),alv (x.us.map fA),alv (x.os.map fA)]:=rfl
 rw[e] at cf ⊢
 generalize (x.us.map fun f=>f.at (xr (xJ x.us l))).map zC=Y at *
 generalize x.us.map fA=us at *
 generalize x.os.map fA=os at *
 generalize l.map zC=LL at *
 generalize (x.n:Int)=n at *
 cbv
 refine cA cf ?_
 cbv
 (refine rC ?_;cbv)
 exact okA
theorem zN4 (g:Reg)(hg:g.sz (2^31)):zB 156 [rgv g] (.bool (fun _=>g.valid (g.lo.length:Int))):=by
 refine sF Tryz.f156 ?_
 have cv:=zPM g (g.lo.length:Int) hg
 generalize g.valid (g.lo.length:Int)=b at *
 obtain⟨lo,hi,rows⟩:=g
 cbv
 refine yQ rfl (by exact⟨okA,zE (by rw[zA]),trivial⟩) cv rfl ?_
 cbv
 (refine rC ?_;cbv)
 exact lR
def r5 (raw:List UInt8) (i:Nat):Nat:=if i<raw.length then ((raw.getD i 0) % 9).toNat else 0
def jE (raw:List UInt8):Nat→List (Rat × Rat)→List Rat
 | _,[]=>[]
 | i,b::r=>(b.1+uD (r5 raw i:Int) 8 * (b.2 - b.1))::jE raw (i+1) r
theorem sP (raw:List UInt8):∀ (i:Nat) (l:List (Rat × Rat)),(jE raw i l).length=l.length
 | _,[]=>rfl
 | i,b::r=>by unfold jE;rw[List.length_cons,List.length_cons,sP raw _ r]
theorem oM (raw:List UInt8):∀ {l:List (Rat × Rat)} {i j:Nat} {b:Rat × Rat},l[j]?=some b→(jE raw i l)[j]?=some (b.1+uD (r5 raw (i+j):Int) 8 * (b.2 - b.1))
 | [],_,_,_,h=>by simp at h
 | a::r,i,0,b,h=>by
  simp only[List.getElem?_cons_zero,Option.some.injEq] at h
  subst h
  unfold jE
  simp
 | a::r,i,j+1,b,h=>by
  simp only[List.getElem?_cons_succ] at h
  unfold jE
  rw[List.getElem?_cons_succ,oM raw h,show i+1+j=i+(j+1) by omega]
theorem remn (w:UInt8):nx .i64 (irem (w.toNat:Int) 9)=(((w % 9).toNat:Nat):Int):=by
 have h:=w.toNat_lt
 unfold irem nx
 have e:Int.tmod (w.toNat:Int) 9=((w.toNat % 9:Nat):Int):=(Int.ofNat_tmod _ _).symm
 rw[e,UInt8.toNat_mod]
 show IntKind.wrap .i64 ((w.toNat % 9:Nat):Int)=((w.toNat % 9:Nat):Int)
 have h8:w.toNat % 9<9:=Nat.mod_lt _ (by decide)
 generalize w.toNat % 9=k at *
 simp [IntKind.wrap,IntKind.signed,IntKind.bits]
 omega
theorem zCI (raw:List UInt8)(i:Nat):r5 raw i<9:=by
 unfold r5
 split
 ·rw[UInt8.toNat_mod];exact Nat.mod_lt _ (by decide)
 ·decide
theorem sO {k:Nat}(h:k<9):Fits 1 (uD (k:Int) 8):=by
 have:∀ k:Fin 9,(uD (k.val:Int) 8).num.natAbs<B∧(uD (k.val:Int) 8).den<B:=by decide +kernel
 obtain⟨h1,h2⟩:=this ⟨k,h⟩
 exact⟨by simpa using h1,by simpa using h2⟩
theorem zBA {raw:List UInt8}:∀ {l:List (Rat × Rat)} {i:Nat},(∀ b,b∈l→Fits 3 b.1∧Fits 3 b.2)→∀ q,q∈jE raw i l→Fits 20 q
 | [],_,_,q,hq=>absurd hq (by simp [jE])
 | b::r,i,h,q,hq=>by
  unfold jE at hq
  rcases List.mem_cons.1 hq with rfl | hq
  ·obtain⟨h1,h2⟩:=h b List.mem_cons_self
   exact (vA h1 (xP (sO (zCI raw i)) (qE h2 h1))).mono (by omega)
  ·exact zBA (fun c hc=>h c (List.mem_cons_of_mem _ hc)) q hq
theorem zB7 (x:FReg)(raw:List UInt8){n:Nat}(hx:x.small n)(hn:n≤1000)(hr:raw.length<2^38):zB 28 [rgv x.g,u8v raw] (rlv ((jE raw 0 x.bs).map zC)):=by
 refine sF Tryz.f28 ?_
 have hbl:=hx.bs
 have facts:∀ i,i<n→∃ (K:Nat) (part lo hi d m y:R),(x.bs.map fun b=>zC b.1)[i]?=some lo∧(x.bs.map fun b=>zC b.2)[i]?=some hi∧zB 68 [.int .i64 (fun _=>(K:Int)),.int .i64 (fun _=>8)] (.tup [rv part,.int .i64 (fun _=>0)]) ∧
   zB 87 [rv hi,rv lo] (rv d)∧zB 57 [rv part,rv d] (rv m)∧zB 52 [rv lo,rv m] (rv y)∧(((jE raw 0 x.bs).take (i+1)).map zC=((jE raw 0 x.bs).take i).map zC++[y]) ∧
   (i<raw.length→∃ w,raw[i]?=some w∧nx .i64 (irem (w.toNat:Int) 9)=(K:Int))∧(¬ i<raw.length→K=0):=fun i hi=>by
  obtain⟨b,hb⟩:=zS (l:=x.bs) (i:=i) (by omega)
  obtain⟨f1,f2⟩:=hx.bf b (List.mem_of_getElem? hb)
  have hK:=zCI raw i
  have c1:=s43 (r5 raw i:Int) 8 (by omega) (by omega) (by decide) (by decide) (by decide)
  have c2:=s93 (zC b.2) (zC b.1) ((zU f2).mono (by decide)) ((zU f1).mono (by decide))
  rw[zY,zY] at c2
  have f3:=qE f2 f1
  have c3:=s77 (zC (uD (r5 raw i:Int) 8)) (zC (b.2 - b.1)) ((zU (sO hK)).mono (by decide)) ((zU f3).mono (by decide))
  rw[zY,zY] at c3
  have c4:=s44 (zC b.1) (zC (uD (r5 raw i:Int) 8 * (b.2 - b.1))) ((zU f1).mono (by decide)) ((zU (xP (sO hK) f3)).mono (by decide))
  rw[zY,zY] at c4
  have g:=oM raw (i:=0) hb
  rw[Nat.zero_add] at g
  refine⟨r5 raw i,_,_,_,_,_,_,by rw[List.getElem?_map,hb];rfl,by rw[List.getElem?_map,hb];rfl,c1,c2,c3,c4,cM _ g,fun h=>?_,fun h=>?_⟩
  ·obtain⟨w,hw⟩:=zS h
   refine⟨w,hw,?_⟩
   rw[remn]
   unfold r5
   rw[if_pos h,List.getD_eq_getElem?_getD,hw]
   rfl
  ·unfold r5
   rw[if_neg h]
 have hIl:(jE raw 0 x.bs).length=n:=by rw[sP,hbl]
 obtain⟨W,hW⟩:∃ W:Nat→List R,∀ i,((jE raw 0 x.bs).take i).map zC=W i:=⟨_,fun _=>rfl⟩
 have w0:W 0=[]:=by rw[←hW];rfl
 have wl:∀ i,i≤n→(W i).length=i:=fun i h=>by rw[←hW,List.length_map,List.length_take];omega
 have w9:(jE raw 0 x.bs).map zC=W n:=by rw[←hW,←hIl,List.take_length]
 simp only[hW] at facts
 rw[w9]
 have e:rgv x.g=.agg [rlv (x.bs.map fun b=>zC b.1),rlv (x.bs.map fun b=>zC b.2),alv (x.rows.map fA)]:=rfl
 rw[e]
 have hLl:(x.bs.map fun b=>zC b.1).length=n:=by rw[List.length_map,hbl]
 clear hW w9 hx hIl e hbl
 generalize x.bs.map (fun b=>zC b.1)=LO at *
 generalize x.bs.map (fun b=>zC b.2)=HI at *
 generalize x.rows.map fA=RW at *
 cbv
 refine z4 (σ:=Nat) (fun i=>⟨[(1,u8v raw),(2,.ptr 2 0),(5,.osl 5 3 (fun _=>0) (fun _=>(W i).length)),(6,.int .i64 (fun _=>(i:Int)))],[(2,.box [rlv LO,rlv HI,alv RW]),(5,.arr 3 (fun _=>enc rc (W i)))]⟩)
  (fun i=>i≤n) (fun i=>n - i) 0 (Nat.zero_le _)
  (.trans (wkZ (ps':=⟨[(1,u8v raw),(2,.ptr 2 0),(5,.nil),(6,.int .i64 (fun _=>((0:Nat):Int)))],[(2,.box [rlv LO,rlv HI,alv RW])]⟩)) (.trans (.adoptT (ps:=⟨[(1,u8v raw),(2,.ptr 2 0),(5,.nil),(6,.int .i64 (fun _=>((0:Nat):Int)))],[(2,.box [rlv LO,rlv HI,alv RW])]⟩) 5 3 5 rfl rfl) (wkY (by cbv;repeat' first | exact trivial | exact lR | exact zE om | exact zW rfl (by first | rfl | (rw[w0];done) | (simp [zL,zA];done) | (rw[w0];simp [zL,zA];done)) | exact zI (by first | rfl | (rw[w0];done) | (rw[w0];rfl) | (rw[←zT];rfl) | (rw[w0,←zT];rfl)) | apply And.intro)))) ?_
 intro i hi'
 have hwi:=wl i hi'
 cbv
 refine zF (fun h=>?_) (fun h=>?_)
 ·have hlt:i<n:=by rw[zA,hLl] at h;(try dsimp only [zG] at *);omega
  obtain⟨K,part,lo,hi,d,m,y,g1,g2,c1,c2,c3,c4,g3,k1,k2⟩:=facts i hlt
  clear facts wl
  generalize W i=Wi at *
  cbv
  refine uV (σ:=Unit) (fun _=>⟨[(1,u8v raw),(2,.ptr 2 0),(5,.osl 5 3 (fun _=>0) (fun _=>Wi.length)),(6,.int .i64 (fun _=>(i:Int))),(7,.int .i64 (fun _=>(K:Int)))],[(2,.box [rlv LO,rlv HI,alv RW]),(5,.arr 3 (fun _=>enc rc Wi))]⟩) (fun _=>True) (fun e=>?_) (fun e=>?_) (fun _ _=>?_)
  ·obtain⟨w,hw,hk⟩:=k1 (jR e)
   cbv
   refine yF hw c7 bR ?_
   cbv
   refine⟨wS om,?_⟩
   cbv
   exact⟨(),trivial,.le (by cbv;exact⟨lR,lR,lR,lR,zE hk,trivial⟩) okZ rfl⟩
  ·have hk:=k2 (fun h=>e (by rw[zA];(try dsimp only [zG] at *);omega))
   subst hk
   cbv
   exact⟨(),trivial,.le (by cbv;exact⟨lR,lR,lR,lR,zE rfl,trivial⟩) okZ rfl⟩
  ·clear k1 k2
   cbv
   refine cA c1 ?_
   cbv
   refine zO 21 (by cbv) ?_
   cbv
   refine yF g1 yU xE ?_
   cbv
   refine yF g2 yU xE ?_
   cbv
   refine yF g1 yU xE ?_
   cbv
   refine dA c2 ?_
   cbv
   refine dA c3 ?_
   cbv
   refine dA c4 ?_
   cbv
   refine aO qS ?_
   cbv
   exact⟨zH om om,i+1,(by show i+1≤n;omega),(by show n - (i+1)<n - i;omega),wkY (by cbv;repeat' first | exact trivial | exact lR | exact zE om | exact zW rfl (by first | rfl | (rw[g3];done) | (simp [zL,zA];done) | (rw[g3];simp [zL,zA];done)) | exact zI (by first | rfl | (rw[g3];done) | (rw[g3];rfl) | (rw[←zT];rfl) | (rw[g3,←zT];rfl)) | apply And.intro)⟩
 have hin:i=n:=by rw[zA,hLl] at h;(try dsimp only [zG] at *);omega
 rw[hin]
 clear hin hwi hi' h facts wl
 generalize W n=X' at *
 have hT:=wQ rc X'
 have hfr:=u5 rc X'
 cbv
 refine qW _ (.trans (.le (ps':=⟨[(4,.osl 5 3 (fun _=>0) (fun _=>X'.length))],[(5,.arr 3 (fun _=>enc rc X'))]⟩) ?_ ?_ rfl) (.frz 5 rfl rfl ?_ ?_)) rfl ?_
 ·cbv
  exact okA
 ·cbv
  exact⟨zI rfl,trivial⟩
 ·cbv
  repeat' first | exact trivial | exact⟨hfr⟩ | apply And.intro
 ·cbv
  repeat' first | exact trivial | apply And.intro
 cbv
 exact zQ hT
def inB:List (Rat × Rat)→List Rat→Bool
 | b::bs,q::qs=>(decide (0≤y7 q b.1) && decide (y7 q b.2≤0)) && inB bs qs
 | _,_=>true
def aQ (fs:List F) (X:Int→Rat):Bool:=fs.all fun f=>decide (0≤yB (f.at X))
theorem mH:∀ {bs:List (Rat × Rat)} {l:List Rat},inB bs l=true→∀ (i:Nat) b q,bs[i]?=some b→l[i]?=some q→0≤y7 q b.1∧y7 q b.2≤0
 | [],_,_,i,b,q,h,_=>by simp at h
 | _::_,[],_,i,b,q,_,h=>by simp at h
 | a::bs,p::l,h,0,b,q,h1,h2=>by
  simp only[List.getElem?_cons_zero,Option.some.injEq] at h1 h2
  subst h1 h2
  unfold inB at h
  simp only[Bool.and_eq_true,decide_eq_true_eq] at h
  exact h.1
 | a::bs,p::l,h,i+1,b,q,h1,h2=>by
  simp only[List.getElem?_cons_succ] at h1 h2
  unfold inB at h
  simp only[Bool.and_eq_true,decide_eq_true_eq] at h
  exact mH h.2 i b q h1 h2
theorem zGX:∀ {bs:List (Rat × Rat)} {l:List Rat},(∀ (i:Nat) b q,bs[i]?=some b→l[i]?=some q→0≤y7 q b.1∧y7 q b.2≤0)→inB bs l=true
 | [],_,_=>by unfold inB;rfl
 | _::_,[],_=>by unfold inB;rfl
 | a::bs,p::l,h=>by
  unfold inB
  simp only[Bool.and_eq_true,decide_eq_true_eq]
  exact⟨h 0 a p rfl rfl,zGX fun i b q h1 h2=>h (i+1) b q (by simpa using h1) (by simpa using h2)⟩
def l6 (x:FReg) (l:List Rat):Bool:=inB x.bs l && aQ x.rows (xr l)
theorem zN5 (x:FReg)(l:List Rat){n:Nat}(hx:x.small n)(hv:x.g.valid (n:Int)=true)(hz:x.g.sz (2^31))(hw:∀ f,f∈x.rows→f.wf (n:Int))(hl:l.length=n)(hn:n≤3){m:Nat}(hm2:m≤2^10)(hf:∀ q,q∈l→Fits m q) :
  zB 88 [rgv x.g,rlv (l.map zC)] (.bool (fun _=>l6 x l)):=by
 refine sF Tryz.f88 ?_
 have co:=zN4 x.g hz
 have hlo:x.g.lo.length=n:=by show (List.map _ _).length=n;rw[List.length_map];exact hx.bs
 rw[hlo,hv] at co
 have hbl:=hx.bs
 generalize hres:l6 x l=res
 have r0:res=(inB x.bs l && aQ x.rows (xr l)):=hres.symm
 have facts:∀ i,i<n→∃ (q lo hi:R) (z1 z2:Int),(l.map zC)[i]?=some q∧(x.bs.map fun b=>zC b.1)[i]?=some lo∧(x.bs.map fun b=>zC b.2)[i]?=some hi∧zB 54 [rv q,rv lo] (.int .i64 (fun _=>z1))∧zB 54 [rv q,rv hi] (.int .i64 (fun _=>z2)) ∧
   (¬ (0≤z1∧z2≤0)→res=false)∧((0≤z1∧z2≤0)→∀ b q,x.bs[i]?=some b→l[i]?=some q→0≤y7 q b.1∧y7 q b.2≤0):=fun i hi=>by
  obtain⟨b,hb⟩:=zS (l:=x.bs) (i:=i) (by omega)
  obtain⟨q,hq⟩:=zS (l:=l) (i:=i) (by omega)
  obtain⟨f1,f2⟩:=hx.bf b (List.mem_of_getElem? hb)
  have f3:=hf q (List.mem_of_getElem? hq)
  have c1:=s42 (zC q) (zC b.1) ((zU f3).mono (by omega)) ((zU f1).mono (by decide))
  have c2:=s42 (zC q) (zC b.2) ((zU f3).mono (by omega)) ((zU f2).mono (by decide))
  rw[zY,zY] at c1 c2
  refine⟨_,_,_,_,_,by rw[List.getElem?_map,hq];rfl,by rw[List.getElem?_map,hb];rfl,by rw[List.getElem?_map,hb];rfl,c1,c2,fun h=>?_,fun h b' q' hb' hq'=>?_⟩
  ·cases hi':inB x.bs l with
   | false=>rw[r0,hi'];rfl
   | true=>exact absurd (mH hi' i b q hb hq) h
  ·rw[hb] at hb'
   rw[hq] at hq'
   cases hb'
   cases hq'
   exact h
 have n2:=hx.rows
 have rf:∀ k,k<x.rows.length→∃ (p:A) (y:R) (s:Int),(x.rows.map fA)[k]?=some p∧zB 32 [av p,rlv (l.map zC)] (.tup [rv y,.int .i64 (fun _=>0)])∧zB 33 [rv y] (.int .i64 (fun _=>s))∧(s<0→res=false)∧(¬ s<0→∀ f,x.rows[k]?=some f→0≤yB (f.at (xr l))):=fun k hk=>by
  obtain⟨f,hfk⟩:=zS hk
  have hmem:=List.mem_of_getElem? hfk
  have hwf:=hw f hmem
  rw[←hl] at hwf
  have hfl:f.fl 19 3:=(hx.rf f hmem).mono (by omega) hn
  have ce:=tO f l hfl hwf hf (by decide) (by omega) (by omega) (by decide) (by omega)
  have cs:=s35 (zC (f.at (xr l))) (by have:=(zU (uQ hfl (gI hwf hf))).n;omega)
  rw[zY] at cs
  refine⟨fA f,_,_,by rw[List.getElem?_map,hfk];rfl,ce,cs,fun h=>?_,fun h f' hf'=>?_⟩
  ·rw[r0]
   have:aQ x.rows (xr l)=false:=by
    cases hr:aQ x.rows (xr l) with
    | false=>rfl
    | true =>
     unfold aQ at hr
     have:=of_decide_eq_true (List.all_eq_true.1 hr f hmem)
     omega
   rw[this,Bool.and_false]
  ·rw[hfk] at hf'
   cases hf'
   omega
 have rt:(∀ i,i<n→∀ b q,x.bs[i]?=some b→l[i]?=some q→0≤y7 q b.1∧y7 q b.2≤0)→(∀ k,k<x.rows.length→∀ f,x.rows[k]?=some f→0≤yB (f.at (xr l)))→res=true:=fun h1 h2=>by
  rw[r0,zGX fun i b q hb hq=>h1 i (by have:=(List.getElem?_eq_some_iff.1 hb).1;omega) b q hb hq]
  unfold aQ
  rw[Bool.true_and,List.all_eq_true]
  intro f hf'
  obtain⟨k,hk⟩:=cC hf'
  exact decide_eq_true (h2 k (List.getElem?_eq_some_iff.1 hk).1 f hk)
 have e:rgv x.g=.agg [rlv (x.bs.map fun b=>zC b.1),rlv (x.bs.map fun b=>zC b.2),alv (x.rows.map fA)]:=rfl
 rw[e] at co ⊢
 have hLl:(x.bs.map fun b=>zC b.1).length=n:=by rw[List.length_map,hbl]
 have hRl:(x.rows.map fA).length=x.rows.length:=List.length_map ..
 have hXl:(l.map zC).length=n:=by rw[List.length_map,hl]
 obtain⟨P1,hP1⟩:∃ P:Nat→Prop,∀ i,P i=∀ b q,x.bs[i]?=some b→l[i]?=some q→0≤y7 q b.1∧y7 q b.2≤0:=⟨_,fun _=>rfl⟩
 obtain⟨P2,hP2⟩:∃ P:Nat→Prop,∀ k,P k=∀ f,x.rows[k]?=some f→0≤yB (f.at (xr l)):=⟨_,fun _=>rfl⟩
 simp only[←hP1] at facts rt
 simp only[←hP2] at rf rt
 clear hx hv hz hw hf e hP1 hP2 r0 hres hlo hbl
 generalize x.bs.map (fun b=>zC b.1)=LO at *
 generalize x.bs.map (fun b=>zC b.2)=HI at *
 generalize x.rows.map fA=RW at *
 generalize x.rows.length=M at *
 generalize l.map zC=X at *
 cbv
 refine cA co ?_
 cbv
 refine qQ rfl ?_
 cbv
 refine zF (fun e=>?_) (fun e=>(e (by rw[zA,zA];(try dsimp only [zG] at *);omega)).elim)
 cbv
 refine z4 (σ:=Nat) (fun i=>⟨[(1,rlv X),(2,.ptr 2 0),(5,.int .i64 (fun _=>(i:Int)))],[(2,.box [rlv LO,rlv HI,alv RW])]⟩)
  (fun i=>i≤n∧∀ j,j<i→P1 j) (fun i=>n - i) 0 ⟨Nat.zero_le _,fun j h=>absurd h (by omega)⟩ (wkZ) ?_
 intro i hi'
 obtain⟨hi1,hi2⟩:=hi'
 cbv
 refine zF (fun h=>?_) (fun h=>?_)
 ·have hlt:i<n:=by rw[zA,hXl] at h;(try dsimp only [zG] at *);omega
  obtain⟨q,lo,hi,z1,z2,g1,g2,g3,c1,c2,k1,k2⟩:=facts i hlt
  clear facts rf rt
  cbv
  refine zO 24 (by cbv) ?_
  cbv
  refine yF g1 yU xE ?_
  cbv
  refine yF g2 yU xE ?_
  cbv
  refine dA c1 ?_
  cbv
  refine zR (fun e1=>?_) (fun e1=>?_)
  ·have hr:=k1 (fun h=>by omega)
   cbv
   (refine rC ?_;cbv)
   exact zM hr
  cbv
  refine yF g1 yU xE ?_
  cbv
  refine yF g3 yU xE ?_
  cbv
  refine dA c2 ?_
  cbv
  refine zF (fun e2=>?_) (fun e2=>?_)
  ·have hr:=k1 (fun h=>by omega)
   cbv
   (refine rC ?_;cbv)
   exact zM hr
  have hp:=k2 ⟨by omega,by omega⟩
  cbv
  exact⟨zH om om,i+1,⟨(by show i+1≤n;omega),fun j hj=>by
   by_cases e:j=i
   ·rw[e];exact hp
   ·exact hi2 j (by have:j<i+1:=hj;omega)⟩,(by show n - (i+1)<n - i;omega),wkZ⟩
 have hin:i=n:=by rw[zA,hXl] at h;(try dsimp only [zG] at *);omega
 rw[hin] at hi2
 clear hin hi1 h facts
 cbv
 refine z4 (σ:=Nat) (fun k=>⟨[(1,rlv X),(2,.ptr 2 0),(6,.int .i64 (fun _=>(k:Int)))],[(2,.box [rlv LO,rlv HI,alv RW])]⟩)
  (fun k=>k≤M∧∀ j,j<k→P2 j) (fun k=>M - k) 0 ⟨Nat.zero_le _,fun j h=>absurd h (by omega)⟩ (wkZ) ?_
 intro k hk'
 obtain⟨hk1,hk2⟩:=hk'
 cbv
 refine zF (fun h=>?_) (fun h=>?_)
 ·have hlt:k<M:=by rw[zA,hRl] at h;(try dsimp only [zG] at *);omega
  obtain⟨p,y,s,g1,c1,c2,k1,k2⟩:=rf k hlt
  clear rf rt
  cbv
  refine yF g1 vR uR ?_
  cbv
  refine cA c1 ?_
  cbv
  refine cA c2 ?_
  cbv
  refine zF (fun e1=>?_) (fun e1=>?_)
  ·have hr:=k1 e1
   cbv
   (refine rC ?_;cbv)
   exact zM hr
  have hp:=k2 e1
  cbv
  exact⟨zH om om,k+1,⟨(by show k+1≤M;omega),fun j hj=>by
   by_cases e:j=k
   ·rw[e];exact hp
   ·exact hk2 j (by have:j<k+1:=hj;omega)⟩,(by show M - (k+1)<M - k;omega),wkZ⟩
 have hkn:k=M:=by rw[zA,hRl] at h;(try dsimp only [zG] at *);omega
 rw[hkn] at hk2
 have hr:=rt hi2 hk2
 cbv
 (refine rC ?_;cbv)
 exact z7 hr
end Go.Proofs.YtgcpehdkdnkgeaaGreat
