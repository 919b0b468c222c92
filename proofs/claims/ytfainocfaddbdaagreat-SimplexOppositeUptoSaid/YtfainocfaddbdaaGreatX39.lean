/- A part of the proof: SzC, SzD, SzE, LsA, LsB. -/
import Derived.Test.YtfainocfaddbdaaGreatX38
set_option linter.all false
namespace Go.Proofs.YtfainocfaddbdaaGreat
open Go
set_option maxRecDepth 100000
set_option maxHeartbeats 4000000
theorem oO (q:Rat)(h:Fits (2^30) q):zD 30 [rv (zK q),rv (zK q)] (.int .i64 (fun _=>0)):=by
 have hz:=z7 h
 have:=s42 (zK q) (zK q) (hz.mono (by decide)) (hz.mono (by decide))
 rw[yN] at this
 have e:gE q q=0:=by unfold gE;rw[if_neg (Rat.lt_irrefl),if_neg (Rat.lt_irrefl)]
 rw[e] at this
 exact this
theorem zQU {v:Nat}{fs:List F}{ob:F}{s:SolR}(hP:PSm v fs ob)(h:SolOk v (fs.map (lnS v)) (lnS v ob) s)(hf:SolFit (2^22) s)(e:s.st=1):zD 63 [pgv (prg v fs ob),slv s] (.bool (fun _=>true)):=by
 have hw:∀ f,f∈fs→f.wf (v:Int):=fun f hf=>(hP.rows f hf).2
 obtain⟨h1,h2,h3,h4,h5,h6,h7⟩:=h.opt e
 have hsub:=h.sub hw hP.obj.2 e
 rw[List.length_map] at h4
 have hpt:lfit (2^23) s.pt:=hf.pt.mono (by decide)
 have cp:=zLS (US:=fs.map fA) (ob:=fA ob) (hf.pt.mono (by decide):lfit (2^30) s.pt) h1 hP.lv
 have cv:zD 62 [rv (zK s.val)] (.bool (fun _=>true)):=by
  have:=s129 (zK s.val) ((z7 hf.val).mono (by decide))
  rw[sC] at this
  exact this
 have cf:=zN0 hP hpt h1 fun f hm=>by rw[←nK (hw f hm)];exact h2 _ (List.mem_map_of_mem hm)
 have ca:=zPB hP hpt h1
 rw[←nK hP.obj.2,h3] at ca
 have cc:=zNZ (ob:=fA ob) hP.rows hP.len h4 h5 hf.du
 have hcm:=zLK hP.rows hP.len h4 hf.du
 have ccw:=zC0 (ds:=s.du) (acc:=F.zero) hw F.wf.zero
 have cb:=zQY hP.obj.2.cn ccw.cn hP.obj.1 hcm (by decide) (by decide) (by decide) (by decide)
 have eb:fA (ob.sub (vE fs s.du F.zero))=⟨[],zK s.val⟩:=by
  show (⟨tR _,zK _⟩:A)=_
  rw[hsub.1,hsub.2];rfl
 have cb':zD 33 [av (fA ob),av (fA (vE fs s.du F.zero))] (av ⟨[],zK s.val⟩):=by rw[←eb];exact cb
 have cm:=oO s.val (hf.val.mono (by decide))
 clear cb eb hsub h2 h3 h5 h6 hcm ccw hpt hf hP h hw
 obtain⟨st,val,pt,du,ry,bas,pv⟩:=s
 dsimp only at *
 subst h7
 obtain⟨CM,hCM⟩:∃ x,fA (vE fs du F.zero)=x:=⟨_,rfl⟩
 rw[hCM] at cc cb'
 refine sF Tryz.f63 ?_
 show wp _ ⟨s6 0 [.agg [.int .i64 (fun _=>(v:Int)),.sl (fun _=>enc ac (fs.map fA)),tsv (fA ob).ts,.bool (fun _=>(fA ob).c.neg),nat (fA ob).c.num,nat (fA ob).c.den],.agg [.int .i64 (fun _=>(st:Int)),.bool (fun _=>(zK val).neg),nat (zK val).num,nat (zK val).den,qlv pt,qlv du,qlv [],ilv bas,.int .i64 (fun _=>(pv:Int))]],_⟩ _
 obtain⟨US,hUS⟩:∃ US,fs.map fA=US:=⟨_,rfl⟩
 obtain⟨O,hO⟩:∃ a,fA ob=a:=⟨_,rfl⟩
 obtain⟨Z,hZ⟩:∃ a,zK val=a:=⟨_,rfl⟩
 obtain⟨tru,htru⟩:∃ b,b=true:=⟨_,rfl⟩
 have cf':zD 112 [.agg [.int .i64 (fun _=>(v:Int)),alv (fs.map fA),tsv (fA ob).ts,.bool (fun _=>(fA ob).c.neg),nat (fA ob).c.num,nat (fA ob).c.den],qlv pt] (.bool (fun _=>true)):=cf
 have ca':zD 113 [.agg [.int .i64 (fun _=>(v:Int)),alv (fs.map fA),tsv (fA ob).ts,.bool (fun _=>(fA ob).c.neg),nat (fA ob).c.num,nat (fA ob).c.den],qlv pt] (.tup [rv (zK val),.int .i64 (fun _=>0)]):=ca
 clear cf ca
 rw[hUS,hO] at cp cc cf' ca'
 rw[hO] at cb'
 rw[hZ] at ca' cv cm cb'
 rw[←htru] at cp cv cf' cc
 rw[hUS,hO,hZ]
 obtain⟨ots,oc⟩:=O
 clear hUS hO hZ hCM
 cbv
 refine cA cp ?_
 cbv
 refine xF (fun e=>?_) (fun e=>by rw[htru] at e;cases e)
 cbv
 refine cA cv ?_
 cbv
 refine xF (fun e=>?_) (fun e=>by rw[htru] at e;cases e)
 cbv
 refine zOG (by decide) ?_
 cbv
 refine cA cf' ?_
 cbv
 refine yA (fun e=>?_) (fun e=>by rw[htru] at e;cases e)
 cbv
 refine cA ca' ?_
 cbv
 refine cA cc ?_
 cbv
 refine xF (fun e=>?_) (fun e=>by rw[htru] at e;cases e)
 cbv
 refine xO rfl ?_
 cbv
 refine cA cm ?_
 cbv
 refine dQ rfl ?_
 cbv
 refine cA cb' ?_
 cbv
 refine xO rfl ?_
 cbv
 refine cA cm ?_
 cbv
 (refine rC ?_;cbv)
 exact zI rfl
theorem zQV {v:Nat}{fs:List F}{ob:F}{s:SolR}(hP:PSm v fs ob)(h:SolOk v (fs.map (lnS v)) (lnS v ob) s)(hf:SolFit (2^22) s)(e:s.st=2):zD 64 [pgv (prg v fs ob),qlv s.du] (.bool (fun _=>true)):=by
 have hw:∀ f,f∈fs→f.wf (v:Int):=fun f hf=>(hP.rows f hf).2
 obtain⟨h1,h2,h3,h4,h5,h6⟩:=h.inf e
 have hsub:=h.neg hw e
 rw[List.length_map] at h4
 have cc:=zNZ (ob:=fA ob) hP.rows hP.len h4 h5 hf.du
 have hcm:=zLK hP.rows hP.len h4 hf.du
 obtain⟨k,hk⟩:∃ k,(vE fs s.du F.zero).c=k:=⟨_,rfl⟩
 rw[hk] at hsub
 have eb:fA (vE fs s.du F.zero)=⟨[],zK k⟩:=by
  show (⟨tR _,zK _⟩:A)=_
  rw[hsub.1,hk];rfl
 have cs:zD 31 [rv (zK k)] (.int .i64 (fun _=>yW k)):=by
  have h3:=s35 (zK k) (by have:=(z7 (hk ▸ hcm.c)).n;omega)
  rw[yN] at h3
  exact h3
 have hsg:=zGI.2 hsub.2
 rw[eb] at cc
 obtain⟨tru,htru⟩:∃ b,b=true:=⟨_,rfl⟩
 rw[←htru] at cc
 refine sF Tryz.f64 ?_
 show wp _ ⟨s6 0 [.agg [.int .i64 (fun _=>(v:Int)),.sl (fun _=>enc ac (fs.map fA)),tsv (fA ob).ts,.bool (fun _=>(fA ob).c.neg),nat (fA ob).c.num,nat (fA ob).c.den],qlv s.du],_⟩ _
 obtain⟨US,hUS⟩:∃ US,fs.map fA=US:=⟨_,rfl⟩
 obtain⟨O,hO⟩:∃ a,fA ob=a:=⟨_,rfl⟩
 obtain⟨Z,hZ⟩:∃ a,zK k=a:=⟨_,rfl⟩
 obtain⟨sg,hsg'⟩:∃ a,yW k=a:=⟨_,rfl⟩
 obtain⟨D,hD⟩:∃ a,s.du=a:=⟨_,rfl⟩
 rw[hUS,hO,hZ,hD] at cc
 rw[hZ,hsg'] at cs
 rw[hsg'] at hsg
 rw[hUS,hO,hD]
 clear hUS hO hZ hD hk eb hsub hcm h4 h5 h6 h1 h2 h3 hf h hP
 obtain⟨ots,oc⟩:=O
 cbv
 refine cA cc ?_
 cbv
 refine xF (fun e=>?_) (fun e=>by rw[htru] at e;cases e)
 cbv
 refine xO rfl ?_
 cbv
 refine cA cs ?_
 cbv
 (refine rC ?_;cbv)
 exact zI (decide_eq_true hsg)
theorem zQT {v:Nat}{fs:List F}{ob:F}{s:SolR}(hP:PSm v fs ob)(h:SolOk v (fs.map (lnS v)) (lnS v ob) s)(hf:SolFit (2^22) s)(e:s.st=3):zD 65 [pgv (prg v fs ob),qlv s.pt,qlv s.ry] (.bool (fun _=>true)):=by
 have hw:∀ f,f∈fs→f.wf (v:Int):=fun f hf=>(hP.rows f hf).2
 obtain⟨h1,h2,h3,h4,h5,h6,h7⟩:=h.unb e
 have hpt:lfit (2^23) s.pt:=hf.pt.mono (by decide)
 have hry:lfit (2^23) s.ry:=hf.ry.mono (by decide)
 have cp:=zLS (US:=fs.map fA) (ob:=fA ob) (hf.pt.mono (by decide):lfit (2^30) s.pt) h3 hP.lv
 have cr:=zLS (US:=fs.map fA) (ob:=fA ob) (hf.ry.mono (by decide):lfit (2^30) s.ry) h4 hP.lv
 have cf:=zN0 hP hpt h3 fun f hm=>by rw[←nK (hw f hm)];exact h5 _ (List.mem_map_of_mem hm)
 have hdf:∀ f:F,f.fl 2 8→f.wf (v:Int)→Fits (2^27) ((dirF f).at (xr s.ry)):=fun f h8 h9=>zET (f:=dirF f) (l:=s.ry) (v:=v) ⟨h8.t,xQ (by decide),h8.len⟩ ⟨h9.cn,h9.v⟩ hry h4
 have cs:∀ q:Rat,Fits (2^27) q→zD 31 [rv (zK q)] (.int .i64 (fun _=>yW q)):=fun q hq=>by
  have h3:=s35 (zK q) (by have:=(z7 hq).n;omega)
  rw[yN] at h3
  exact h3
 have cd:∀ (i:Nat) f,fs[i]?=some f→∃ q:Rat,zD 115 [av (fA f),qlv s.ry] (rv (zK q))∧zD 31 [rv (zK q)] (.int .i64 (fun _=>yW q))∧0≤yW q:=fun i f hi=>by
  have hm:=List.mem_of_getElem? hi
  have h8:=hP.rows f hm
  refine⟨_,zNY h8.1 h8.2 hry h4 hP.lv,cs _ (hdf f h8.1 h8.2),zGJ ?_⟩
  rw[zLH h8.2]
  exact h6 _ (List.mem_map_of_mem hm)
 have co:=zNY hP.obj.1 hP.obj.2 hry h4 hP.lv
 have cos:=cs _ (hdf ob hP.obj.1 hP.obj.2)
 have hon:yW ((dirF ob).at (xr s.ry))<0:=zGI.2 (by rw[zLH hP.obj.2];exact h7)
 obtain⟨tru,htru⟩:∃ b,b=true:=⟨_,rfl⟩
 have cf':zD 112 [.agg [.int .i64 (fun _=>(v:Int)),alv (fs.map fA),tsv (fA ob).ts,.bool (fun _=>(fA ob).c.neg),nat (fA ob).c.num,nat (fA ob).c.den],qlv s.pt] (.bool (fun _=>true)):=cf
 rw[←htru] at cp cr cf'
 refine sF Tryz.f65 ?_
 show wp _ ⟨s6 0 [.agg [.int .i64 (fun _=>(v:Int)),.sl (fun _=>enc ac (fs.map fA)),tsv (fA ob).ts,.bool (fun _=>(fA ob).c.neg),nat (fA ob).c.num,nat (fA ob).c.den],qlv s.pt,qlv s.ry],_⟩ _
 obtain⟨US,hUS⟩:∃ US,fs.map fA=US:=⟨_,rfl⟩
 have hUl:US.length=fs.length:=by rw[←hUS,List.length_map]
 have hUb:US.length≤14:=by rw[hUl];exact hP.len
 obtain⟨O,hO⟩:∃ a,fA ob=a:=⟨_,rfl⟩
 obtain⟨Q,hQ⟩:∃ a,(dirF ob).at (xr s.ry)=a:=⟨_,rfl⟩
 rw[hQ] at co cos hon
 obtain⟨Z,hZ⟩:∃ a,zK Q=a:=⟨_,rfl⟩
 obtain⟨sg,hsg'⟩:∃ a,yW Q=a:=⟨_,rfl⟩
 obtain⟨D,hD⟩:∃ a,s.pt=a:=⟨_,rfl⟩
 obtain⟨E,hE⟩:∃ a,s.ry=a:=⟨_,rfl⟩
 rw[hUS,hO,hD] at cp cf'
 rw[hUS,hO,hE] at cr
 rw[hO,hE,hZ] at co
 rw[hZ,hsg'] at cos
 rw[hsg'] at hon
 rw[hE] at cd
 rw[hUS,hO,hD,hE]
 clear hO hZ hD hE h4 h5 h6 h1 h2 h3 h7 hf h hP hry hpt hdf cs hw cf
 obtain⟨ots,oc⟩:=O
 have cd':∀ (i:Nat),i<US.length→∃ (a:A) (q:R) (n:Int),US[i]?=some a∧zD 115 [av a,qlv E] (rv q)∧zD 31 [rv q] (.int .i64 (fun _=>n))∧0≤n:=fun i hi=>by
  obtain⟨f,hf⟩:=zU (show i<fs.length by omega)
  obtain⟨q,q1,q2,q3⟩:=cd i f hf
  exact⟨fA f,zK q,yW q,by rw[←hUS,List.getElem?_map,hf];rfl,q1,q2,q3⟩
 clear cd hUS hUl
 cbv
 refine cA cp ?_
 cbv
 refine xF (fun e=>?_) (fun e=>by rw[htru] at e;cases e)
 cbv
 refine cA cr ?_
 cbv
 refine xF (fun e=>?_) (fun e=>by rw[htru] at e;cases e)
 cbv
 refine cA cf' ?_
 cbv
 refine yA (fun e=>?_) (fun e=>by rw[htru] at e;cases e)
 cbv
 refine z9 (σ:=Nat) (fun i=>⟨[(2,qlv E),(3,.ptr 3 0),(7,.int .i64 (fun _=>(i:Int)))],[(3,.box [.int .i64 (fun _=>(v:Int)),alv US,tsv ots,.bool (fun _=>oc.neg),nat oc.num,nat oc.den])]⟩) (fun i=>i≤US.length) (fun i=>US.length - i) 0 (Nat.zero_le _) (wkZ) ?_
 intro i h1
 cbv
 refine zG (fun h5=>?_) (fun h5=>?_)
 ·have hlt:=bG h5
  obtain⟨a,q,n,k1,k2,k3,k4⟩:=cd' i hlt
  cbv
  refine vX k1 uN uE ?_
  cbv
  refine cA k2 ?_
  cbv
  refine cA k3 ?_
  cbv
  refine gD om ?_
  cbv
  exact⟨zF om om,i+1,om,om,wkZ⟩
 ·cbv
  refine cA co ?_
  cbv
  refine cA cos ?_
  cbv
  (refine rC ?_;cbv)
  exact zI (decide_eq_true hon)
theorem zPA {v:Nat}{fs:List F}{ob:F}{s:SolR}(hP:PSm v fs ob)(h:SolOk v (fs.map (lnS v)) (lnS v ob) s)(hf:SolFit (2^22) s):zD 23 [pgv (prg v fs ob),slv s] (.bool (fun _=>true)):=by
 have cv:zD 62 [rv (zK s.val)] (.bool (fun _=>true)):=by
  have:=s129 (zK s.val) ((z7 hf.val).mono (by decide))
  rw[sC] at this
  exact this
 have cs:zD 31 [rv (zK s.val)] (.int .i64 (fun _=>yW s.val)):=by
  have h3:=s35 (zK s.val) (by have:=(z7 hf.val).n;omega)
  rw[yN] at h3
  exact h3
 have c1:=fun e=>zQU hP h hf e
 have c2:=fun e=>zQV hP h hf e
 have c3:=fun e=>zQT hP h hf e
 have hO:=h.one
 have z2:s.st=2→yW s.val=0∧s.pt=[]∧s.ry=[]:=fun e=>⟨by rw[(h.inf e).2.2.1];rfl,(h.inf e).1,(h.inf e).2.1⟩
 have z3:s.st=3→yW s.val=0∧s.du=[]:=fun e=>⟨by rw[(h.unb e).2.1];rfl,(h.unb e).1⟩
 clear h hf hP
 refine sF Tryz.f23 ?_
 show wp _ ⟨s6 0 [.agg [.int .i64 (fun _=>(v:Int)),.sl (fun _=>enc ac (fs.map fA)),tsv (fA ob).ts,.bool (fun _=>(fA ob).c.neg),nat (fA ob).c.num,nat (fA ob).c.den],slv s],_⟩ _
 have c1':s.st=1→zD 63 [.agg [.int .i64 (fun _=>(v:Int)),alv (fs.map fA),tsv (fA ob).ts,.bool (fun _=>(fA ob).c.neg),nat (fA ob).c.num,nat (fA ob).c.den],slv s] (.bool (fun _=>true)):=c1
 have c2':s.st=2→zD 64 [.agg [.int .i64 (fun _=>(v:Int)),alv (fs.map fA),tsv (fA ob).ts,.bool (fun _=>(fA ob).c.neg),nat (fA ob).c.num,nat (fA ob).c.den],qlv s.du] (.bool (fun _=>true)):=c2
 have c3':s.st=3→zD 65 [.agg [.int .i64 (fun _=>(v:Int)),alv (fs.map fA),tsv (fA ob).ts,.bool (fun _=>(fA ob).c.neg),nat (fA ob).c.num,nat (fA ob).c.den],qlv s.pt,qlv s.ry] (.bool (fun _=>true)):=c3
 clear c1 c2 c3
 obtain⟨US,hUS⟩:∃ US,fs.map fA=US:=⟨_,rfl⟩
 obtain⟨O,hO'⟩:∃ a,fA ob=a:=⟨_,rfl⟩
 obtain⟨st,val,pt,du,ry,bas,pv⟩:=s
 dsimp only at *
 rw[hUS,hO'] at c1' c2' c3'
 rw[hUS,hO']
 clear hUS hO'
 obtain⟨Z,hZ⟩:∃ a,zK val=a:=⟨_,rfl⟩
 obtain⟨sg,hsg⟩:∃ a,yW val=a:=⟨_,rfl⟩
 obtain⟨tru,htru⟩:∃ b,b=true:=⟨_,rfl⟩
 unfold slv at c1'
 dsimp only at c1'
 rw[hZ,←htru] at c1'
 rw[←htru] at c2' c3'
 rw[hZ,←htru] at cv
 rw[hZ,hsg] at cs
 rw[hsg] at z2 z3
 unfold slv
 dsimp only
 rw[hZ]
 obtain⟨ots,oc⟩:=O
 clear hZ hsg
 rcases hO with e | e | e
 ·have k1:=c1' e
  subst e
  clear c1' c2' c3' z2 z3
  cbv
  refine cA cv ?_
  cbv
  refine xF (fun e=>?_) (fun e=>by rw[htru] at e;cases e)
  cbv
  refine cA cs ?_
  cbv
  refine dQ rfl ?_
  cbv
  refine cA k1 ?_
  cbv
  (refine rC ?_;cbv)
  exact zI htru
 ·have k1:=c2' e
  obtain⟨z0,z1,z4⟩:=z2 e
  subst e z0 z1 z4
  clear c1' c2' c3' z2 z3
  cbv
  refine cA cv ?_
  cbv
  refine xF (fun e=>?_) (fun e=>by rw[htru] at e;cases e)
  cbv
  refine cA cs ?_
  cbv
  refine gD (by decide) ?_
  cbv
  refine dQ rfl ?_
  cbv
  refine xO rfl ?_
  cbv
  refine xO rfl ?_
  cbv
  refine xO rfl ?_
  cbv
  refine cA k1 ?_
  cbv
  (refine rC ?_;cbv)
  exact zI htru
 ·have k1:=c3' e
  obtain⟨z0,z1⟩:=z3 e
  subst e z0 z1
  clear c1' c2' c3' z2 z3
  cbv
  refine cA cv ?_
  cbv
  refine xF (fun e=>?_) (fun e=>by rw[htru] at e;cases e)
  cbv
  refine cA cs ?_
  cbv
  refine gD (by decide) ?_
  cbv
  refine gD (by decide) ?_
  cbv
  refine dQ rfl ?_
  cbv
  refine xO rfl ?_
  cbv
  refine xO rfl ?_
  cbv
  refine cA k1 ?_
  cbv
  (refine rC ?_;cbv)
  exact zI htru
theorem zNX {s t:SolR}(h1:Fits (2^30) s.val)(h2:s.st=t.st)(h3:s.val=t.val):zD 25 [slv s,slv t] (.bool (fun _=>true)):=by
 have cm:=oO s.val h1
 refine sF Tryz.f25 ?_
 obtain⟨st,val,pt,du,ry,bas,pv⟩:=s
 obtain⟨st2,val2,pt2,du2,ry2,bas2,pv2⟩:=t
 dsimp only at *
 subst h2 h3
 unfold slv
 dsimp only
 obtain⟨Z,hZ⟩:∃ a,zK val=a:=⟨_,rfl⟩
 rw[hZ] at cm
 rw[hZ]
 clear h1 hZ
 cbv
 refine xO rfl ?_
 cbv
 refine cA cm ?_
 cbv
 (refine rC ?_;cbv)
 exact zI rfl
theorem i6 {v:Int}{q:Rat}{r:List (Int × Rat)}{k:Nat}(hq:Fits k q)(hr:∀ t,t∈r→Fits k t.2):∀ t,t∈pc v q r→Fits k t.2:=fun t ht=>by
 unfold pc at ht
 split at ht
 ·exact hr t ht
 ·rcases List.mem_cons.1 ht with rfl | ht
  ·exact hq
  ·exact hr t ht
theorem i4 {v:Int}{q:Rat}{k m:Nat}(hq:Fits k q):∀ {d:Bool} {l:List (Int × Rat)},(∀ t,t∈l→Fits m t.2)→∀ t,t∈y8 v q d l→Fits (m+k+1) t.2
 | d,[],_,t,ht=>by
  unfold y8 at ht
  split at ht
  ·simp at ht
  ·exact i6 (hq.mono (by omega)) (fun u hu=>absurd hu (by simp)) t ht
 | d,u::r,h,t,ht=>by
  have h1:=h u List.mem_cons_self
  have h2:∀ d t,t∈y8 v q d r→Fits (m+k+1) t.2:=fun d=>i4 hq (fun x hx=>h x (List.mem_cons_of_mem _ hx))
  unfold y8 at ht
  split at ht
  ·exact i6 ((uW h1 hq).mono (by omega)) (h2 true) t ht
  ·split at ht
   ·exact i6 (hq.mono (by omega)) (i6 (h1.mono (by omega)) (h2 true)) t ht
   ·exact i6 (h1.mono (by omega)) (h2 d) t ht
theorem zQR (ts:List (Int × Rat))(c:Rat)(hv:∀ t,t∈ts→0≤t.1)(hf:∀ t,t∈ts→Fits (2^20) t.2)(hc:Fits (2^20) c)(hp:∀ i,Tfit (2^30) (plusAll [] (ts.take i)))(hl:ts.length<2^30) :
  zD 128 [tsv (tR ts),rv (zK c)] (.tup [av (fA ⟨plusAll [] ts,c⟩),.int .i64 (fun _=>0)]):=by
 have cc:=s47 (zK c) ((z7 hc).mono (by decide))
 rw[yN] at cc
 have cp:∀ (i:Nat) t,ts[i]?=some t→zD 72 [av ⟨tR (plusAll [] (ts.take i)),zK c⟩,.int .i64 (fun _=>t.1),rv (zK t.2)] (av ⟨tR (plusAll [] (ts.take (i+1))),zK c⟩):=fun i t ht=>by
  have:=zN3 (plusAll [] (ts.take i)) (zK c) t.1 (zK t.2) (hp i) ((z7 (hf t (List.mem_of_getElem? ht))).mono (by decide))
  rw[yN] at this
  have e:y8 t.1 t.2 false (plusAll [] (ts.take i))=plusAll [] (ts.take (i+1)):=by
   rw[List.take_add_one,ht]
   show _=plusAll [] (ts.take i++[t])
   rw[tE]
  rw[e] at this
  exact this
 have hz:tR (plusAll [] (ts.take 0))=[]:=rfl
 have hlen:=vR ts
 have hT:ts.take ts.length=ts:=List.take_length
 show zD _ _ (.tup [.agg [tsv (tR (plusAll [] ts)),.bool (fun _=>(zK c).neg),nat (zK c).num,nat (zK c).den],_])
 obtain⟨Z,hZ⟩:∃ Z,zK c=Z:=⟨_,rfl⟩
 obtain⟨T,hTT⟩:∃ T:Nat→List (Int × R),∀ i,tR (plusAll [] (ts.take i))=T i:=⟨_,fun _=>rfl⟩
 have hz':T 0=[]:=by rw[←hTT];rfl
 have hT':tR (plusAll [] ts)=T ts.length:=by rw[←hTT,hT]
 simp only[hTT,hZ] at cp
 rw[hZ] at cc
 rw[hT',hZ]
 clear hp hTT hT hT' hZ hc hz
 have hgi:∀ (i:Nat) t,ts[i]?=some t→(tR ts)[i]?=some (t.1,zK t.2):=fun i t ht=>by unfold tR;rw[List.getElem?_map,ht];rfl
 have hv':∀ (i:Nat) t,ts[i]?=some t→0≤t.1:=fun i t ht=>hv t (List.mem_of_getElem? ht)
 clear hv hf
 obtain⟨TS,hTS⟩:∃ TS,tR ts=TS:=⟨_,rfl⟩
 rw[hTS] at hlen hgi
 rw[hTS]
 refine sF Tryz.f128 ?_
 cbv
 refine cA cc ?_
 cbv
 refine z9 (σ:=Nat × List (Int × R)) (fun s=>⟨[(0,tsv TS),(4,.ptr 4 0),(6,.ptr 6 0),(7,.int .i64 (fun _=>(s.1:Int)))],[(4,.box [.nil,.ff,.nil,.nil]),(6,.box [tsv s.2,.bool (fun _=>Z.neg),nat Z.num,nat Z.den])]⟩)
  (fun s=>s.1≤ts.length∧s.2=T s.1) (fun s=>ts.length - s.1) (0,[]) ⟨Nat.zero_le _,hz'.symm⟩ (wkZ) ?_
 intro s hs
 obtain⟨i,W⟩:=s
 obtain⟨h1,h2⟩:=hs
 dsimp only at h1 h2
 cbv
 refine zG (fun h5=>?_) (fun h5=>?_)
 ·have hlt:i<ts.length:=by have:=bG h5;omega
  obtain⟨t,ht⟩:=zU hlt
  have hg:=hgi i t ht
  have hv1:=hv' i t ht
  have cp1:=cp i t ht
  obtain⟨V,hV⟩:∃ V,T (i+1)=V:=⟨_,rfl⟩
  rw[←h2,hV] at cp1
  obtain⟨q,hq⟩:∃ q,zK t.2=q:=⟨_,rfl⟩
  rw[hq] at hg cp1
  obtain⟨y,c0⟩:=t
  dsimp only at hg hv1 cp1
  cbv
  refine vX hg u5 jA ?_
  cbv
  refine gD om ?_
  cbv
  refine zY 12 (by cbv) ?_
  cbv
  refine vX hg u5 jA ?_
  cbv
  refine vX hg u5 jA ?_
  cbv
  refine dA cp1 ?_
  cbv
  exact⟨zF om om,(i+1,V),⟨om,hV.symm⟩,om,wkZ⟩
 ·have hi:i=ts.length:=by have:=nF h5 (by omega);omega
  subst hi
  rw[←h2]
  cbv
  (refine rC ?_;cbv)
  exact okA
theorem zPD {TS:List (Int × R)}{Z:R}{a:A}(cm:zD 128 [tsv TS,rv Z] (.tup [av a,.int .i64 (fun _=>0)])):zD 84 [tsv TS,rv Z] (av a):=by
 refine sF Tryz.f84 ?_
 obtain⟨ats,ac0⟩:=a
 cbv
 refine cA cm ?_
 cbv
 (refine rC ?_;cbv)
 exact okA
def frm (c0 c1 c:Int):F:=⟨plusAll [] [(0,(c0:Rat)),(1,(c1:Rat))],(c:Rat)⟩
theorem c6 {z:Int}(h:z.natAbs≤8):Fits 1 (z:Rat):=j6 (Nat.lt_of_le_of_lt h (by decide)) (Nat.le_refl 1)
theorem zB3 {m:Nat}:∀ {g l:List (Int × Rat)},(∀ t,t∈g→Fits 1 t.2)→(∀ t,t∈l→Fits m t.2)→∀ t,t∈plusAll l g→Fits (m+2 * g.length) t.2
 | [],l,_,h,t,ht=>h t ht
 | u::g,l,hg,h,t,ht=>by
  have e:plusAll l (u::g)=plusAll (y8 u.1 u.2 false l) g:=rfl
  rw[e] at ht
  have:=zB3 (m:=m+2) (g:=g) (l:=y8 u.1 u.2 false l) (fun x hx=>hg x (List.mem_cons_of_mem _ hx)) (i4 (hg u List.mem_cons_self) h) t ht
  exact this.mono (by rw[List.length_cons];omega)
theorem zA5 {c0 c1:Int}(h0:c0.natAbs≤8)(h1:c1.natAbs≤8):∀ t,t∈[((0:Int),(c0:Rat)),(1,(c1:Rat))]→0≤t.1∧Fits 1 t.2:=fun t ht=>by
 rcases List.mem_cons.1 ht with rfl | ht
 ·exact⟨Int.le_refl 0,c6 h0⟩
 ·rcases List.mem_cons.1 ht with rfl | ht
  ·exact⟨show (0:Int)≤1 by decide,c6 h1⟩
  ·simp at ht
theorem zMY {c0 c1 c:Int}(h0:c0.natAbs≤8)(h1:c1.natAbs≤8)(h2:c.natAbs≤8):zD 84 [tsv [(0,zK (c0:Rat)),(1,zK (c1:Rat))],rv (zK (c:Rat))] (av (fA (frm c0 c1 c))):=by
 have ht:=zA5 h0 h1
 refine zPD (zQR [(0,(c0:Rat)),(1,(c1:Rat))] c (fun t h=>(ht t h).1) (fun t h=>(ht t h).2.mono (by decide)) ((c6 h2).mono (by decide)) (fun i=>⟨?_,fun t h=>?_⟩) (show 2<2^30 by decide))
 ·refine Nat.lt_of_le_of_lt (dL _ _) ?_
  rw[List.length_take]
  have:([]:List (Int × Rat)).length=0:=rfl
  have:([((0:Int),(c0:Rat)),(1,(c1:Rat))]:List (Int × Rat)).length=2:=rfl
  omega
 ·refine (zB3 (m:=1) (g:=[((0:Int),(c0:Rat)),(1,(c1:Rat))].take i) (l:=[]) (fun t h=>(ht t (List.mem_of_mem_take h)).2) (fun t h=>absurd h (by simp)) t h).mono ?_
  rw[List.length_take]
  have:([((0:Int),(c0:Rat)),(1,(c1:Rat))]:List (Int × Rat)).length=2:=rfl
  omega
theorem iM {c0 c1 c:Int}(h0:c0.natAbs≤8)(h1:c1.natAbs≤8)(h2:c.natAbs≤8):zD 45 [.int .i64 (fun _=>c0),.int .i64 (fun _=>c1),.int .i64 (fun _=>c)] (av (fA (frm c0 c1 c))):=by
 have cf:=zMY h0 h1 h2
 have k0:=s32 c0 (by omega) (by omega)
 have k1:=s32 c1 (by omega) (by omega)
 have k2:=s32 c (by omega) (by omega)
 refine sF Tryz.f45 ?_
 obtain⟨a,ha⟩:∃ a,fA (frm c0 c1 c)=a:=⟨_,rfl⟩
 rw[ha] at cf
 rw[ha]
 obtain⟨ats,ac0⟩:=a
 obtain⟨A0,hA0⟩:∃ a,zK (c0:Rat)=a:=⟨_,rfl⟩
 obtain⟨A1,hA1⟩:∃ a,zK (c1:Rat)=a:=⟨_,rfl⟩
 obtain⟨A2,hA2⟩:∃ a,zK (c:Rat)=a:=⟨_,rfl⟩
 rw[hA0] at k0 cf
 rw[hA1] at k1 cf
 rw[hA2] at k2 cf
 clear hA0 hA1 hA2
 cbv
 refine cA k0 ?_
 cbv
 refine cA k1 ?_
 cbv
 refine cA k2 ?_
 cbv
 refine cA cf ?_
 cbv
 (refine rC ?_;cbv)
 exact okA
theorem cX:ty 22=.sli 4 80 [.nil,.ff,.nil,.nil]:=by cbv
theorem zQW (a b c d:A)(ha:fA (frm 1 1 0)=a)(hb:fA (frm 1 2 (-4))=b)(hc:fA (frm 1 0 0)=c)(hd:fA (frm 0 1 0)=d) :
  Sound 44 [] [] [] (.agg [.int .i64 (fun _=>2),.osl 5 4 (fun _=>0) (fun _=>3),tsv a.ts,.bool (fun _=>a.c.neg),nat a.c.num,nat a.c.den]) [] [(5,.arr 4 (fun _=>enc ac [b,c,d]))]:=by
 have k0:=iM (c0:=1) (c1:=1) (c:=0) (by decide) (by decide) (by decide)
 have k1:=iM (c0:=1) (c1:=2) (c:=-4) (by decide) (by decide) (by decide)
 have k2:=iM (c0:=1) (c1:=0) (c:=0) (by decide) (by decide) (by decide)
 have k3:=iM (c0:=0) (c1:=1) (c:=0) (by decide) (by decide) (by decide)
 rw[ha] at k0
 rw[hb] at k1
 rw[hc] at k2
 rw[hd] at k3
 clear ha hb hc hd
 refine sF Tryz.f44 ?_
 obtain⟨ats,ac0⟩:=a
 obtain⟨bts,bc⟩:=b
 obtain⟨cts,cc⟩:=c
 obtain⟨dts,dc⟩:=d
 cbv
 refine cA k0 ?_
 cbv
 refine cA k1 ?_
 cbv
 refine cA k2 ?_
 cbv
 refine cA k3 ?_
 cbv
 refine zNN (by cbv) ?_
 cbv
 refine p8 id (.refl _) rfl (by exact⟨⟨rfl,rfl⟩,trivial⟩) (by rfl) (by exact trivial) ?_
 cbv
 repeat' first | exact trivial | exact lR | exact yC rfl rfl | apply And.intro
theorem zKQ {vars:Int}:∀ {ts:List (Int × R)} {p:Int},vT vars p ts=true→∀ t,t∈tq ts→0≤t.1∧t.1<vars
 | [],_,_,t,h=>absurd h (by simp [tq])
 | u::r,p,h,t,ht=>by
  rw[lE] at h
  simp only[Bool.and_eq_true,decide_eq_true_eq] at h
  obtain⟨⟨⟨⟨⟨h1,h2⟩,h3⟩,h4⟩,h5⟩,h6⟩:=h
  rcases List.mem_cons.1 ht with rfl | ht
  ·exact⟨h1,h2⟩
  ·exact zKQ h6 t ht
theorem aU {a:A}{n:Int}(h:a.valid n=true):fA a.f=a∧a.f.wf n:=by
 have h1:=zCD h
 unfold A.valid at h
 simp only[Bool.and_eq_true] at h
 exact⟨h1.1,h1.2,zKQ h.1⟩
theorem zDA {a:A}(h:a.small=true):a.f.fl 2 8:=by
 unfold A.small R.small at h
 simp only[Bool.and_eq_true,decide_eq_true_eq,List.all_eq_true] at h
 obtain⟨⟨⟨h1,⟨h2,h3⟩⟩,h4⟩,h5⟩:=h
 refine⟨fun t ht=>?_,R.sz.fits ⟨h2.1,h2.2⟩ (by decide),?_⟩
 ·obtain⟨u,hu,rfl⟩:=List.mem_map.1 (show t∈a.ts.map fun t=>(t.1,t.2.q) from ht)
  have:=h5 u hu
  exact R.sz.fits ⟨this.1.1,this.1.2⟩ (by decide)
 ·show (tq a.ts).length≤8
  rw[show (tq a.ts).length=a.ts.length from List.length_map ..]
  exact h1
structure PW (v:Nat) (fs:List F) (ob:F) (k n:Nat):Prop where
 lv:v≤4
 len:fs.length≤9
 rows:∀ f,f∈fs→f.fl k n∧f.wf (v:Int)
 obj:ob.fl k n∧ob.wf (v:Int)
 k1:1≤k
 k2:k≤500
 hn:n<2^20
section
variable {v k n:Nat} {fs:List F} {ob:F}
theorem PW.valid (h:PW v fs ob k n):(prg v fs ob).valid=true:=by
 have:=h.lv
 have:=h.len
 unfold Prg.valid
 show (decide (0≤(v:Int)∧(v:Int)≤1280∧(fs.map fA).length≤4096) && (fA ob).valid (v:Int) && (fs.map fA).all (A.valid (v:Int)))=true
 rw[decide_eq_true (by rw[List.length_map];omega),h.obj.2.valid,zQF fun f hf=>(h.rows f hf).2]
 rfl
theorem PW.sz (h:PW v fs ob k n):(prg v fs ob).sz k where
 rows:=⟨by show (fs.map fA).length<_;rw[List.length_map];have:=h.len;omega,fun a ha=>by
  obtain⟨f,hf,rfl⟩:=List.mem_map.1 ha
  exact ((h.rows f hf).1.fit (by have:=h.hn;omega)).fA⟩
 ob:=(h.obj.1.fit (by have:=h.hn;omega)).fA
structure Ans (v:Nat) (fs:List F) (ob:F) (K:Nat) (s:SolR):Prop where
 sl:Slv v fs ob K s
 sem:Sem fs ob s.st s.val
 call:zD 20 [pgv (prg v fs ob)] (.tup [slv s,.int .i64 (fun _=>0)])
theorem PW.solve (h:PW v fs ob k n):∃ s,Ans v fs ob (1953125 * k) s:=by
 obtain⟨s,hs⟩:=zO6 (K:=1953125 * k) h.lv h.len h.k1 (fun f hf=>(h.rows f hf).1) h.obj.1 (Nat.le_refl _)
 have hk:1953125 * k≤2^30:=by have:=h.k2;omega
 have h1:=h.hn
 have h2:=h.lv
 have h3:=h.len
 exact⟨s,hs,hs.ok.sem (fun f hf=>(h.rows f hf).2) h.obj.2,zJL v 0 fs ob s (h.sz.mono (by have:=h.k2;omega)) h.valid (by omega) (by omega)
  (fun f hf=>⟨by have:=(h.rows f hf).1.len;omega,(h.rows f hf).2.v⟩) (by have:=h.obj.1.len;omega) h.obj.2.v (fun E hE=>(hs.piv E hE).mono hk) (hs.walk.mono hk) hs.some⟩
end
theorem jO {P:Prg}(h:P.small=true):∃ v fs ob,P=prg v fs ob∧fs.length≤8∧PW v fs ob 2 8:=by
 unfold Prg.small mN at h
 simp only[Bool.and_eq_true,decide_eq_true_eq,List.all_eq_true] at h
 obtain⟨⟨⟨h1,h2,h3⟩,h4⟩,h5⟩:=h
 unfold Prg.valid at h5
 simp only[Bool.and_eq_true,decide_eq_true_eq,List.all_eq_true] at h5
 obtain⟨⟨h6,h7⟩,h8⟩:=h5
 obtain⟨n,us,ob⟩:=P
 dsimp only at *
 have hn:n=((n.toNat:Nat):Int):=by omega
 have hob:=aU h7
 have e:us.map (fun a=>fA a.f)=us:=by
  refine List.ext_getElem? fun i=>?_
  rw[List.getElem?_map]
  cases hi:us[i]? with
  | none=>rfl
  | some a=>show some (fA a.f)=some a;rw[(aU (h8 a (List.mem_of_getElem? hi))).1]
 refine⟨n.toNat,us.map A.f,ob.f,?_,by rw[List.length_map];omega,by omega,by rw[List.length_map];omega,fun f hf=>?_,⟨zDA h4,hn ▸ hob.2⟩,by decide,by decide,by decide⟩
 ·show (⟨n,us,ob⟩:Prg)=⟨((n.toNat:Nat):Int),(us.map A.f).map fA,fA ob.f⟩
  rw[←hn,List.map_map,hob.1]
  congr 1
  exact e.symm
 ·obtain⟨a,ha,rfl⟩:=List.mem_map.1 hf
  exact⟨zDA (h3 a ha),hn ▸ (aU (h8 a ha)).2⟩
theorem PW.psm {v:Nat}{fs:List F}{ob:F}(h:PW v fs ob 2 8):PSm v fs ob:=⟨by have:=h.lv;omega,h.sz.mono (by decide),h.valid,h.rows,h.obj,by have:=h.len;omega⟩
theorem pC {c0 c1 c:Int}(h0:c0.natAbs≤8)(h1:c1.natAbs≤8)(h2:c.natAbs≤8):(frm c0 c1 c).fl 5 2:=by
 have ht:=zA5 h0 h1
 refine⟨fun t h=>?_,(c6 h2).mono (by decide),dL _ _⟩
 exact zB3 (m:=1) (g:=[((0:Int),(c0:Rat)),(1,(c1:Rat))]) (l:=[]) (fun t h=>(ht t h).2) (fun t h=>absurd h (by simp)) t h
theorem l4 {f:F}{n:Int}(h:(fA f).valid n=true):f.wf n:=by
 have:=(aU h).2
 have e:(fA f).f=f:=by
  obtain⟨ts,c⟩:=f
  show (⟨tq (tR ts),(zK c).q⟩:F)=⟨ts,c⟩
  rw[zEW,yN]
 rwa [e] at this
def exRw:List F:=[frm 1 2 (-4),frm 1 0 0,frm 0 1 0]
theorem zPZ:frm 1 2 (-4)=⟨[(0,1),(1,2)],-4⟩∧frm 1 0 0=⟨[(0,1)],0⟩∧frm 0 1 0=⟨[(1,1)],0⟩∧frm 1 1 0=⟨[(0,1),(1,1)],0⟩∧frm (-1) (-1) 1=⟨[(0,-1),(1,-1)],1⟩∧frm (-1) 0 0=⟨[(0,-1)],0⟩:=by
 refine⟨?_,?_,?_,?_,?_,?_⟩ <;> (unfold frm;congr 1)
theorem at2 {X:Int→Rat}{a b:Int}{p q c:Rat}:(⟨[(a,p),(b,q)],c⟩:F).at X=c+(p * X a+(q * X b+0)):=rfl
theorem at1 {X:Int→Rat}{a:Int}{p c:Rat}:(⟨[(a,p)],c⟩:F).at X=c+(p * X a+0):=rfl
theorem zI5 (X:Int→Rat):(frm 1 2 (-4)).at X=X 0+2 * X 1 - 4∧(frm 1 0 0).at X=X 0∧(frm 0 1 0).at X=X 1∧(frm 1 1 0).at X=X 0+X 1∧(frm (-1) (-1) 1).at X=1 - X 0 - X 1∧(frm (-1) 0 0).at X=- X 0:=by
 obtain⟨h1,h2,h3,h4,h5,h6⟩:=zPZ
 rw[h1,h2,h3,h4,h5,h6,at2,at1,at1,at2,at2,at1]
 refine⟨?_,?_,?_,?_,?_,?_⟩ <;> grind
theorem pts3 {a b c:F}{X:Int→Rat}:Pts [a,b,c] X↔0≤a.at X∧0≤b.at X∧0≤c.at X:=by
 unfold Pts
 simp
theorem pts4 {a b c d:F}{X:Int→Rat}:Pts [a,b,c,d] X↔0≤a.at X∧0≤b.at X∧0≤c.at X∧0≤d.at X:=by
 unfold Pts
 simp
theorem pts1 {a:F}{X:Int→Rat}:Pts [a] X↔0≤a.at X:=by
 unfold Pts
 simp
theorem zNF {st:Nat}{z:Rat}(h:Sem exRw (frm 1 1 0) st z):st=1∧z=2:=by
 have lo:∀ X,Pts exRw X→2≤(frm 1 1 0).at X:=fun X hX=>by
  obtain⟨h1,h2,h3,h4,h5,h6⟩:=zI5 X
  obtain⟨g1,g2,g3⟩:=pts3.1 hX
  grind
 have h0:∃ X:Int→Rat,X 0=0∧X 1=2:=⟨fun i=>if i=1 then 2 else 0,by decide,by decide⟩
 obtain⟨X,e0,e1⟩:=h0
 have hp:Pts exRw X∧(frm 1 1 0).at X=2:=by
  obtain⟨h1,h2,h3,h4,h5,h6⟩:=zI5 X
  refine⟨pts3.2 ⟨?_,?_,?_⟩,?_⟩ <;> grind
 rcases h.one with e | e | e
 ·obtain⟨⟨Y,y1,y2⟩,y3⟩:=h.opt e
  have h1:=lo Y y1
  have h2:=y3 X hp.1
  exact⟨e,by grind⟩
 ·exact absurd hp.1 ((h.inf e).2 X)
 ·obtain⟨Y,y1,y2⟩:=(h.unb e).2 2
  have h1:=lo Y y1
  exact absurd y2 (by grind)
theorem zNE {st:Nat}{z:Rat}(h:Sem (exRw++[frm (-1) (-1) 1]) (frm 1 1 0) st z):st=2:=by
 have no:∀ X,¬ Pts (exRw++[frm (-1) (-1) 1]) X:=fun X hX=>by
  obtain⟨h1,h2,h3,h4,h5,h6⟩:=zI5 X
  obtain⟨g1,g2,g3,g4⟩:=pts4.1 hX
  grind
 rcases h.one with e | e | e
 ·obtain⟨⟨Y,y1,y2⟩,y3⟩:=h.opt e
  exact absurd y1 (no Y)
 ·exact e
 ·obtain⟨Y,y1,y2⟩:=(h.unb e).2 2
  exact absurd y1 (no Y)
theorem zND {st:Nat}{z:Rat}(h:Sem [frm 1 0 0] (frm (-1) 0 0) st z):st=3:=by
 have pt:∀ c:Rat,0≤c→Pts [frm 1 0 0] (fun _=>c)∧(frm (-1) 0 0).at (fun _=>c)=-c:=fun c hc=>by
  obtain⟨h1,h2,h3,h4,h5,h6⟩:=zI5 (fun _=>c)
  exact⟨pts1.2 (by grind),h6⟩
 rcases h.one with e | e | e
 ·obtain⟨⟨Y,y1,y2⟩,y3⟩:=h.opt e
  by_cases hz:0≤-z
  ·obtain⟨p1,p2⟩:=pt (-z+1) (by grind)
   have:=y3 _ p1
   grind
  ·obtain⟨p1,p2⟩:=pt 0 (by decide)
   have:=y3 _ p1
   grind
 ·exact absurd (pt 0 (by decide)).1 ((h.inf e).2 _)
 ·exact e
theorem ex_pw:PW 2 exRw (frm 1 1 0) 5 2:=⟨by decide,by decide,fun f hf=>by
 have:f=frm 1 2 (-4)∨f=frm 1 0 0∨f=frm 0 1 0:=by simpa [exRw] using hf
 rcases this with rfl | rfl | rfl
 ·exact⟨pC (by decide) (by decide) (by decide),l4 (by decide +kernel)⟩
 ·exact⟨pC (by decide) (by decide) (by decide),l4 (by decide +kernel)⟩
 ·exact⟨pC (by decide) (by decide) (by decide),l4 (by decide +kernel)⟩,⟨pC (by decide) (by decide) (by decide),l4 (by decide +kernel)⟩,by decide,by decide,by decide⟩
theorem ex_pw2:PW 2 (exRw++[frm (-1) (-1) 1]) (frm 1 1 0) 5 2:=⟨by decide,by decide,fun f hf=>by
 rcases List.mem_append.1 hf with hf | hf
 ·exact ex_pw.rows f hf
 ·have:f=frm (-1) (-1) 1:=by simpa using hf
  subst this
  exact⟨pC (by decide) (by decide) (by decide),l4 (by decide +kernel)⟩,ex_pw.obj,by decide,by decide,by decide⟩
theorem ex_pw3:PW 1 [frm 1 0 0] (frm (-1) 0 0) 5 2:=⟨by decide,by decide,fun f hf=>by
 have:f=frm 1 0 0:=by simpa using hf
 subst this
 exact⟨pC (by decide) (by decide) (by decide),l4 (by decide +kernel)⟩,⟨pC (by decide) (by decide) (by decide),l4 (by decide +kernel)⟩,by decide,by decide,by decide⟩
theorem zQX:zD 18 [] (.bool (fun _=>true)):=by
 obtain⟨s1,a1⟩:=ex_pw.solve
 obtain⟨s2,a2⟩:=ex_pw2.solve
 obtain⟨s3,a3⟩:=ex_pw3.solve
 obtain⟨t1,z1⟩:=zNF a1.sem
 have t2:=zNE a2.sem
 have t3:=zND a3.sem
 have k1:=a1.call
 have k2:=a2.call
 have k3:=a3.call
 have kf:=iM (c0:=-1) (c1:=-1) (c:=1) (by decide) (by decide) (by decide)
 have kg:=iM (c0:=-1) (c1:=0) (c:=0) (by decide) (by decide) (by decide)
 have kh:=iM (c0:=1) (c1:=0) (c:=0) (by decide) (by decide) (by decide)
 have ko:=s32 2 (by decide) (by decide)
 have f2:Fits 1 (2:Rat):=⟨by decide,by decide⟩
 have kc:=oO 2 (f2.mono (by decide))
 rw[show ((2:Int):Rat)=2 from rfl] at ko
 obtain⟨a,ha⟩:∃ a,fA (frm 1 1 0)=a:=⟨_,rfl⟩
 obtain⟨b,hb⟩:∃ a,fA (frm 1 2 (-4))=a:=⟨_,rfl⟩
 obtain⟨c,hc⟩:∃ a,fA (frm 1 0 0)=a:=⟨_,rfl⟩
 obtain⟨d,hd⟩:∃ a,fA (frm 0 1 0)=a:=⟨_,rfl⟩
 obtain⟨e,he⟩:∃ a,fA (frm (-1) (-1) 1)=a:=⟨_,rfl⟩
 obtain⟨f,hf⟩:∃ a,fA (frm (-1) 0 0)=a:=⟨_,rfl⟩
 have ce:=zQW a b c d ha hb hc hd
 have e1:exRw.map fA=[b,c,d]:=by show [fA _,fA _,fA _]=_;rw[hb,hc,hd]
 have e2:(exRw++[frm (-1) (-1) 1]).map fA=[b,c,d,e]:=by rw[List.map_append,e1];show [b,c,d,fA _]=_;rw[he]
 have e3:[frm 1 0 0].map fA=[c]:=by show [fA _]=_;rw[hc]
 have e4:((2:Nat):Int)=2:=rfl
 have e5:((1:Nat):Int)=1:=rfl
 have k1':zD 20 [.agg [.int .i64 (fun _=>((2:Nat):Int)),alv (exRw.map fA),tsv (fA (frm 1 1 0)).ts,.bool (fun _=>(fA (frm 1 1 0)).c.neg),nat (fA (frm 1 1 0)).c.num,nat (fA (frm 1 1 0)).c.den]] (.tup [slv s1,.int .i64 (fun _=>0)]):=k1
 have k2':zD 20 [.agg [.int .i64 (fun _=>((2:Nat):Int)),alv ((exRw++[frm (-1) (-1) 1]).map fA),tsv (fA (frm 1 1 0)).ts,.bool (fun _=>(fA (frm 1 1 0)).c.neg),nat (fA (frm 1 1 0)).c.num,nat (fA (frm 1 1 0)).c.den]] (.tup [slv s2,.int .i64 (fun _=>0)]):=k2
 have k3':zD 20 [.agg [.int .i64 (fun _=>((1:Nat):Int)),alv ([frm 1 0 0].map fA),tsv (fA (frm (-1) 0 0)).ts,.bool (fun _=>(fA (frm (-1) 0 0)).c.neg),nat (fA (frm (-1) 0 0)).c.num,nat (fA (frm (-1) 0 0)).c.den]] (.tup [slv s3,.int .i64 (fun _=>0)]):=k3
 rw[e1,ha,e4] at k1'
 rw[e2,ha,e4] at k2'
 rw[e3,hf,e5] at k3'
 clear e1 e2 e3 e4 e5
 rw[he] at kf
 rw[hf] at kg
 rw[hc] at kh
 clear k1 k2 k3 a1 a2 a3 ha hb hc hd he hf
 obtain⟨st1,v1,p1,d1,r1,b1,n1⟩:=s1
 obtain⟨st2,v2,p2,d2,r2,b2,n2⟩:=s2
 obtain⟨st3,v3,p3,d3,r3,b3,n3⟩:=s3
 dsimp only at t1 t2 t3 z1
 subst t1 t2 t3 z1
 unfold slv at k1' k2' k3'
 dsimp only at k1' k2' k3'
 obtain⟨Z,hZ⟩:∃ Z,zK 2=Z:=⟨_,rfl⟩
 obtain⟨Z2,hZ2⟩:∃ Z,zK v2=Z:=⟨_,rfl⟩
 obtain⟨Z3,hZ3⟩:∃ Z,zK v3=Z:=⟨_,rfl⟩
 have ko':zD 26 [.int .i64 (fun _=>2)] (rv Z):=by rw[←hZ];exact ko
 rw[hZ] at k1' kc
 rw[hZ2] at k2'
 rw[hZ3] at k3'
 clear ko hZ hZ2 hZ3
 obtain⟨ats,ac0⟩:=a
 obtain⟨bts,bc⟩:=b
 obtain⟨cts,cc⟩:=c
 obtain⟨dts,dc⟩:=d
 obtain⟨ets,ec⟩:=e
 obtain⟨fts,fc⟩:=f
 refine sF Tryz.f18 ?_
 cbv
 refine y4 (fun _=>201) (.refl _) rfl (by exact trivial) ce (by exact trivial) rfl rfl rfl rfl rfl rfl rfl rfl ?_
 cbv
 refine qJ (.frz 201 rfl rfl (by cbv;repeat' first | exact trivial | exact yD (by simp [zM]) | apply And.intro) (by cbv;repeat' first | exact trivial | exact yD (by simp [zM]) | apply And.intro)) rfl (by exact⟨⟨lR,zX rfl,lR,lR,lR,lR,trivial⟩,trivial⟩) k1' rfl ?_
 cbv
 refine y4 (fun _=>202) (.refl _) rfl (by exact trivial) ce (by exact trivial) rfl rfl rfl rfl rfl rfl rfl rfl ?_
 cbv
 refine zY 4 (by cbv) ?_
 cbv
 refine dA kf ?_
 cbv
 refine wL cX rfl rfl rfl (by rfl) rfl ⟨by simp [yO,xG]⟩ (yJ (by simp [yO,zM] <;> omega) (by simp [yO,zM])) rfl ?_
 cbv
 refine qJ (.frz 18 rfl rfl (by cbv;repeat' first | exact trivial | exact yD (by simp [zM]) | apply And.intro) (by cbv;repeat' first | exact trivial | exact yD (by simp [zM]) | apply And.intro)) rfl (by exact⟨⟨lR,zX rfl,lR,lR,lR,lR,trivial⟩,trivial⟩) k2' rfl ?_
 cbv
 refine cA kg ?_
 cbv
 refine cA kh ?_
 cbv
 refine zQA ?_
 cbv
 refine xX rfl (by exact⟨⟨lR,zX rfl,lR,lR,lR,lR,trivial⟩,trivial⟩) k3' rfl ?_
 cbv
 refine zY 33 (by cbv) ?_
 cbv
 refine xO rfl ?_
 cbv
 refine xO rfl ?_
 cbv
 refine dA ko' ?_
 cbv
 refine dA kc ?_
 cbv
 refine xO rfl ?_
 cbv
 refine xO rfl ?_
 cbv
 refine xO rfl ?_
 cbv
 refine xO rfl ?_
 cbv
 (refine rC ?_;cbv)
 exact zI rfl
theorem rW {tru:Bool}(h:tru=true):zD 18 [] (.bool (fun _=>tru)):=by rw[h];exact zQX
theorem SolFit.mono {K L:Nat}{s:SolR}(h:SolFit K s)(hm:K≤L):SolFit L s:=⟨h.val.mono hm,h.pt.mono hm,h.du.mono hm,h.ry.mono (by omega)⟩
theorem zPK (P:Prg)(h:P.bk (2^20)):zD 5 [pgv P] (.bool (fun _=>true)):=by
 have hz:=h.sz (m:=2^32) (Nat.le_refl _) (by decide)
 have cv:=zI1 P hz
 have cs:=zH6 P hz
 obtain⟨tru,htru⟩:∃ b,b=true:=⟨_,rfl⟩
 have ca:=rW htru
 obtain⟨b,hb⟩:∃ b,P.valid=b:=⟨_,rfl⟩
 rw[hb] at cv cs
 clear hb hz h
 have cs':b=false→zD 20 [pgv P] (.tup [.agg [.int .i64 (fun _=>((0:Nat):Int)),.bool (fun _=>(zK 0).neg),nat (zK 0).num,nat (zK 0).den,qlv [],qlv [],qlv [],ilv [],.int .i64 (fun _=>((0:Nat):Int))],.int .i64 (fun _=>1)]):=cs
 obtain⟨Z,hZ⟩:∃ Z,zK 0=Z:=⟨_,rfl⟩
 rw[hZ] at cs'
 clear cs hZ
 obtain⟨n,us,ob⟩:=P
 obtain⟨ots,oc⟩:=ob
 refine sF Tryz.f5 ?_
 cbv
 refine cA ca ?_
 cbv
 refine yA (fun e=>?_) (fun e=>by rw[htru] at e;cases e)
 cbv
 refine yG (fun e1=>?_) (fun e1=>?_)
 ·cbv
  (refine rC ?_;cbv)
  exact zS rfl
 cbv
 refine cA cv ?_
 cbv
 refine yA (fun e2=>?_) (fun e2=>?_)
 ·cbv
  (refine rC ?_;cbv)
  exact zS rfl
 have cs:=cs' e2
 clear cs' cv ca
 cbv
 refine cA cs ?_
 cbv
 refine xO rfl ?_
 cbv
 refine xO rfl ?_
 cbv
 refine xO rfl ?_
 cbv
 refine xO rfl ?_
 cbv
 (refine rC ?_;cbv)
 exact zI rfl
theorem zPH (P:Prg)(h:P.bk (2^20)):zD 4 [pgv P] (.bool (fun _=>true)):=by
 have hz:=h.sz (m:=2^32) (Nat.le_refl _) (by decide)
 have cv:=iL P hz
 obtain⟨tru,htru⟩:∃ b,b=true:=⟨_,rfl⟩
 have ca:=rW htru
 obtain⟨b,hb⟩:∃ b,P.small=b:=⟨_,rfl⟩
 rw[hb] at cv
 have cs:b=true→∃ s:SolR,zD 20 [pgv P] (.tup [slv s,.int .i64 (fun _=>0)])∧zD 23 [pgv P,slv s] (.bool (fun _=>tru))∧s.pv≤65536:=fun e=>by
  obtain⟨v,fs,ob,rfl,_,hw⟩:=jO (hb.trans e)
  obtain⟨s,hs⟩:=hw.solve
  exact⟨s,hs.call,by rw[htru];exact zPA hw.psm hs.sl.ok (hs.sl.fit.mono (by decide)),hs.sl.pv⟩
 clear hb hz h
 obtain⟨n,us,ob⟩:=P
 obtain⟨ots,oc⟩:=ob
 refine sF Tryz.f4 ?_
 cbv
 refine cA ca ?_
 cbv
 refine yA (fun e=>?_) (fun e=>by rw[htru] at e;cases e)
 cbv
 refine cA cv ?_
 cbv
 refine yA (fun e2=>?_) (fun e2=>?_)
 rotate_left
 ·cbv
  (refine rC ?_;cbv)
  exact zS rfl
 obtain⟨s,c1,c2,c3⟩:=cs e2
 clear cs cv ca
 obtain⟨st,val,pt,du,ry,bas,pv⟩:=s
 dsimp only at c3
 try unfold slv at c1
 try unfold slv at c2
 dsimp only at c1 c2
 obtain⟨Z,hZ⟩:∃ Z,zK val=Z:=⟨_,rfl⟩
 rw[hZ] at c1 c2
 clear hZ
 cbv
 refine cA c1 ?_
 cbv
 refine xO rfl ?_
 cbv
 refine cA c2 ?_
 cbv
 refine xF (fun e=>?_) (fun e=>by rw[htru] at e;cases e)
 cbv
 refine xO om ?_
 cbv
 (refine rC ?_;cbv)
 exact zI (decide_eq_true om)
end Go.Proofs.YtfainocfaddbdaaGreat
