/- A part of the proof: LzF. -/
import Derived.Test.YtgcpehdkdnkgeaaGreatX42
set_option linter.all false
namespace Go.Proofs.YtgcpehdkdnkgeaaGreat
open Go
set_option maxRecDepth 100000
set_option maxHeartbeats 4000000
theorem zOW (w:UInt8)(k:Nat)(hk:0<k)(hk2:k<256):nx .i64 (irem (w.toNat:Int) (k:Int))=((w.toNat % k:Nat):Int):=by
 rw[vQ]
 unfold nx
 have:=Nat.mod_lt w.toNat hk
 simp [IntKind.wrap,IntKind.signed,IntKind.bits]
 omega
structure ExF (raw:List UInt8) (ms:List Mk) (at':List UInt8) (W:Nat→List R) (N:Nat) (NN:Nat→Prop):Prop where
 un:∀ j,j<N→∃ (a:A) (y z:R),(yS raw ms).q.g.us[j]?=some a∧zB 32 [av a,rlv (W j)] (.tup [rv y,.int .i64 (fun _=>0)])∧zB 51 [rv y,rv ⟨false,[],[]⟩] (rv z) ∧
  (∀ w,at'[j+4]?=some w→w.toNat % 4=0→∃ k u:R,zB 40 [.int .i64 (fun _=>nx .i64 (irem (w.toNat:Int) 3))] (rv k)∧zB 52 [rv z,rv k] (rv u)∧W (j+1)=W j++[u]) ∧
  ((∀ w,at'[j+4]?=some w→¬ w.toNat % 4=0)→W (j+1)=W j++[z])
 row:∀ i,i<(yS raw ms).all.length→∃ (r:Row) (f:A) (y:R) (z:Int),(yS raw ms).all[i]?=some r∧zB 27 [sv (yS raw ms),rwv r] (.tup [av f,.bool (fun _=>true)])∧zB 32 [av f,rlv (W N)] (.tup [rv y,.int .i64 (fun _=>0)]) ∧
  zB 33 [rv y] (.int .i64 (fun _=>z))∧(¬ z<0→NN i)
 fin:(∀ i,i<(yS raw ms).all.length→NN i)→∀ j,j<N→∃ (a:A) (y m:R) (ph:Int),(yS raw ms).q.g.us[j]?=some a∧zB 32 [av a,rlv (W N)] (.tup [rv y,.int .i64 (fun _=>0)])∧zB 53 [sv (yS raw ms),.int .i64 (fun _=>(j:Int))] (.int .i64 (fun _=>ph)) ∧
  (ph≠0→∃ (v:R) (k:Nat),(yS raw ms).q.g.n+(j:Int)=(k:Int)∧(W N)[k]?=some v∧zB 51 [rv y,rv ⟨false,[],[]⟩] (rv m)∧zB 54 [rv v,rv m] (.int .i64 (fun _=>0)))
 len:∀ j,j≤N→(W j).length≤100
 len0:(yS raw ms).q.g.us.length=N
theorem zJB (a:Rat):y7 a a=0:=by unfold y7;split <;> (try split) <;> grind
theorem zKW (raw:List UInt8){ms:List Mk}(at':List UInt8)(h:MkOk' ms):∃ (W:Nat→List R) (NN:Nat→Prop),W 0=(jE at' 0 (fdY raw 0).1.r.bs).map zC∧ExF raw ms at' W (fdY raw 0).1.g.us.length NN:=by
 have hx:=xA raw 0
 have hok:=cX raw 0
 have hio:=zGW raw at'
 have n2:=hx.g.n2
 have u4:=hx.g.us
 have hv:(yS raw ms).q.valid=true:=hx.valid hok
 have hus:(yS raw ms).q.g.us=(fdY raw 0).1.g.us.map fA:=rfl
 have hn:(yS raw ms).q.g.n=((fdY raw 0).1.g.n:Int):=rfl
 generalize hl:jE at' 0 (fdY raw 0).1.r.bs=l at *
 have hll:=hio.len
 have hw:∀ (i:Nat) (f:F),(fdY raw 0).1.g.us[i]?=some f→f.wf ((l.length+i:Nat):Int):=by rw[hll];exact hok.us
 have hfit:=fun j (hj:j≤(fdY raw 0).1.g.us.length)=>zDV hw hx.g.uf (zJP at') hio.fit j hj
 have hlen:=fun j (hj:j≤(fdY raw 0).1.g.us.length)=>zBS (us:=(fdY raw 0).1.g.us) (c:=xcC at') (l:=l) j hj
 have hfit':∀ j,j≤(fdY raw 0).1.g.us.length→∀ q,q∈xcV (fdY raw 0).1.g.us (xcC at') l j→Fits (2^20) q:=fun j hj q hq=>(hfit j hj q hq).mono (zP2 (by omega))
 obtain⟨V,hV⟩:∃ V:Nat→List Rat,V=xcV (fdY raw 0).1.g.us (xcC at') l:=⟨_,rfl⟩
 have hs:∀ (j:Nat) f,(fdY raw 0).1.g.us[j]?=some f→V (j+1)=V j++[uZ (f.at (xr (V j))) 0+xcC at' j]:=fun j f hf=>by rw[hV];exact iR hf
 have hV0:V 0=l:=by rw[hV];rfl
 rw[←hV] at hfit' hlen
 refine⟨fun j=>(V j).map zC,fun i=>∀ r f,(yS raw ms).all[i]?=some r→(yS raw ms).fm r=some f→0≤f.at (xr (V (fdY raw 0).1.g.us.length)),by show (V 0).map zC=_;rw[hV0],⟨fun j hj=>?_,fun i hi=>?_,fun hNN j hj=>?_,fun j hj=>by rw[List.length_map,hlen j hj];omega,by rw[hus,List.length_map]⟩⟩
 ·obtain⟨f,hf⟩:=zS hj
  have hwf:=hw j f hf
  have hff:=hx.g.uf f (List.mem_of_getElem? hf)
  rw[←hlen j (by omega)] at hwf
  have c1:=tO f (V j) hff hwf (hfit' j (by omega)) (by decide) (by decide) (by decide) (by decide) (by rw[hlen j (by omega)];omega)
  have hpf:Fits (2^24) (f.at (xr (V j))):=(uQ hff (gI hwf (hfit' j (by omega)))).mono (by decide)
  have c2:=s70 (zC (f.at (xr (V j)))) ⟨false,[],[]⟩ ((zU hpf).mono (by decide)) ⟨by decide,by decide⟩
  rw[zY] at c2
  have e0:(⟨false,[],[]⟩:R).q=0:=rfl
  rw[e0] at c2
  have hmf:Fits (2^24+1) (uZ (f.at (xr (V j))) 0):=mN hpf (wH (by decide))
  refine⟨fA f,_,_,by rw[hus,List.getElem?_map,hf];rfl,c1,c2,fun w hwj h4=>?_,fun hno=>?_⟩
  ·have e1:nx .i64 (irem (w.toNat:Int) 3)=((w.toNat % 3:Nat):Int):=zOW w 3 (by decide) (by decide)
   have h3:=Nat.mod_lt w.toNat (show 0<3 by decide)
   have c3:=s32 ((w.toNat % 3:Nat):Int) (by omega) (by omega)
   have ec:xcC at' j=(((w.toNat % 3:Nat):Int):Rat):=by unfold xcC;rw[hwj];exact if_pos h4
   have c4:=s44 (zC (uZ (f.at (xr (V j))) 0)) (zC (((w.toNat % 3:Nat):Int):Rat)) ((zU hmf).mono (by decide)) ((tY _ (by omega) (by omega)).mono (by decide))
   rw[zY,zY,←ec] at c4
   exact⟨_,_,by rw[e1];exact c3,by rw[←ec];exact c4,by rw[hs j f hf,List.map_append];rfl⟩
  ·have ec:xcC at' j=0:=by
    unfold xcC
    split
    ·rfl
    ·rename_i b hb
     exact if_neg (hno b hb)
   show (V (j+1)).map zC=_
   rw[hs j f hf,List.map_append,ec]
   show _++[zC (_+0)]=_
   rw[show uZ (f.at (xr (V j))) 0+0=uZ (f.at (xr (V j))) 0 by grind]
 ·obtain⟨r,g⟩:=zS hi
  obtain⟨f,hf⟩:=zDS (s:=yS raw ms) (x:=(fdY raw 0).1) rfl hx hok r (List.mem_of_getElem? g)
  have hwf:=zM5 (s:=yS raw ms) rfl hx hok r f hf
  have hsh:=hwf.short
  have hfl:=zO6 h hf
  have hf7:f.fl (2^26) 7:=⟨fun t ht=>(hfl.t t ht).mono (by decide),hfl.c.mono (by decide),by omega⟩
  have hvl:=hlen (fdY raw 0).1.g.us.length (Nat.le_refl _)
  rw[hll] at hvl
  rw[←hvl] at hwf
  have c1:=tO f (V (fdY raw 0).1.g.us.length) hf7 hwf (hfit' _ (Nat.le_refl _)) (by decide) (by decide) (by decide) (by decide) (by omega)
  have hpf:=uQ hf7 (gI hwf (hfit' _ (Nat.le_refl _)))
  have c2:=s35 (zC (f.at (xr (V (fdY raw 0).1.g.us.length)))) (Nat.lt_of_le_of_lt (zU hpf).n (by decide))
  rw[zY] at c2
  refine⟨r,fA f,_,_,g,zBR h hf,c1,c2,fun hz r' f' hr' hf'=>?_⟩
  rw[g] at hr'
  obtain rfl:=Option.some.inj hr'
  rw[hf] at hf'
  obtain rfl:=Option.some.inj hf'
  exact zB0 (by omega)
 ·obtain⟨f,hf⟩:=zS hj
  have hp:(yS raw ms).q.g.us[j]?=some (fA f):=by rw[hus,List.getElem?_map,hf];rfl
  have hwf:f.wf ((V (fdY raw 0).1.g.us.length).length:Int):=(hw j f hf).mono (by rw[hlen _ (Nat.le_refl _)];omega)
  have hff:=hx.g.uf f (List.mem_of_getElem? hf)
  have c1:=tO f (V (fdY raw 0).1.g.us.length) hff hwf (hfit' _ (Nat.le_refl _)) (by decide) (by decide) (by decide) (by decide) (by rw[hlen _ (Nat.le_refl _)];omega)
  have hpf:Fits (2^24) (f.at (xr (V (fdY raw 0).1.g.us.length))):=(uQ hff (gI hwf (hfit' _ (Nat.le_refl _)))).mono (by decide)
  have c2:=s70 (zC (f.at (xr (V (fdY raw 0).1.g.us.length)))) ⟨false,[],[]⟩ ((zU hpf).mono (by decide)) ⟨by decide,by decide⟩
  rw[zY] at c2
  have e0:(⟨false,[],[]⟩:R).q=0:=rfl
  rw[e0] at c2
  have hmf:Fits (2^24+1) (uZ (f.at (xr (V (fdY raw 0).1.g.us.length))) 0):=mN hpf (wH (by decide))
  refine⟨fA f,_,zC (uZ (f.at (xr (V (fdY raw 0).1.g.us.length))) 0),_,hp,c1,zJ1 (yS raw ms) j (iQ h),fun hph=>?_⟩
  have hdec:(yS raw ms).onU j=true∨(yS raw ms).offU j=true:=by
   unfold Scp.phase at hph
   split at hph
   ·split at hph
    ·rename_i e;exact .inl e
    ·split at hph
     ·rename_i e;exact .inr e
     ·exact absurd rfl hph
   ·exact absurd rfl hph
  have hX:=zFX (X:=xr (V (fdY raw 0).1.g.us.length)) hv hp (fun r f hr hf=>by
   obtain⟨i,hi⟩:=cC hr
   exact hNN i (List.getElem?_eq_some_iff.1 hi).1 r f hi hf) hdec
  obtain⟨v,hv'⟩:=zS (l:=V (fdY raw 0).1.g.us.length) (i:=(fdY raw 0).1.g.n+j) (by rw[hlen _ (Nat.le_refl _),hll];omega)
  have e2:((fdY raw 0).1.g.n:Int)+(j:Int)=(((fdY raw 0).1.g.n+j:Nat):Int):=by omega
  rw[hn,e2,aV hv'] at hX
  have c3:=s42 (zC v) (zC v) ((zU (hfit' _ (Nat.le_refl _) v (List.mem_of_getElem? hv'))).mono (by decide)) ((zU (hfit' _ (Nat.le_refl _) v (List.mem_of_getElem? hv'))).mono (by decide))
  rw[zJB] at c3
  refine⟨zC v,(fdY raw 0).1.g.n+j,by rw[hn];exact e2,by rw[List.getElem?_map,hv'];rfl,c2,?_⟩
  rw[←hX]
  exact c3
theorem zSV (raw:List UInt8)(ms:List Mk)(at':List UInt8)(hr:raw.length≤9223372036854775807)(hm:ms.length≤9223372036854775807)(hv:∀ m,m∈ms→-128≤m.num∧m.num≤127)(ha:at'.length≤9223372036854775807):zB 11 [u8v raw,mkv ms,u8v at'] (.bool (fun _=>true)):=by
 refine sF Tryz.f11 ?_
 have ca:=bX
 by_cases hs:400<raw.length∨10<ms.length
 ·have c0:=tL raw ms hr hm hs
  cbv
  refine cA ca ?_
  cbv
  refine vH rfl ?_
  cbv
  refine cA c0 ?_
  cbv
  refine pK rfl ?_
  cbv
  (refine rC ?_;cbv)
  exact z7 rfl
 have hok:MkOk' ms:=⟨by omega,hv⟩
 have c0:=iD raw ms (by omega) (by omega) hv
 obtain⟨cQq,_⟩:=zGC (raw:=raw) hok
 have hl:=zGB raw ms
 obtain⟨W,NN,hW0,F⟩:=zKW raw at' hok
 have hx:=xA raw 0
 have cI:at'.length≤40→Sound 28 [rgv (yS raw ms).q.r,u8v at'] [] [] (.osl 5 3 (fun _=>0) (fun _=>(W 0).length)) [] [(5,.arr 3 (fun _=>enc rc (W 0)))]:=fun h=>by
  rw[hW0]
  exact zJ6 (fdY raw 0).1.r at' hx.r (by have:=hx.g.n2;omega) (by omega)
 obtain⟨f1,f2,f3,f4,f5⟩:=F
 have gn0:0≤(yS raw ms).q.g.n∧(yS raw ms).q.g.n≤3:=⟨by show 0≤((fdY raw 0).1.g.n:Int);omega,by show ((fdY raw 0).1.g.n:Int)≤3;have:=hx.g.n2;omega⟩
 have hN4:=hx.g.us
 clear hW0 hx hok hv
 generalize (fdY raw 0).1.g.us.length=N at *
 generalize (yS raw ms).all=L at *
 generalize yS raw ms=B at *
 obtain⟨⟨⟨n,us,os⟩,⟨lo,hi',rows⟩,⟨ts,c⟩⟩,path,lems⟩:=B
 dsimp only at f1 f2 f3 f5 gn0 cI
 cbv
 refine cA ca ?_
 cbv
 refine vH rfl ?_
 cbv
 refine cA c0 ?_
 cbv
 refine qQ rfl ?_
 cbv
 refine zF (fun h=>?_) (fun h=>?_)
 ·cbv
  (refine rC ?_;cbv)
  exact z7 rfl
 have ha':at'.length≤40:=by rw[zA] at h;(try dsimp only [zG] at *);omega
 have cI':=cI ha'
 clear cI c0 ca h
 cbv
 refine xW (fun _=>500) (.refl _) rfl okA cI' trivial rfl rfl rfl rfl rfl rfl rfl rfl ?_
 cbv
 clear cI'
 refine z4 (σ:=Nat) (fun j=>⟨[(2,u8v at'),(7,.ptr 7 0),(9,.osl 500 3 (fun _=>0) (fun _=>(W j).length)),(10,.int .i64 (fun _=>(j:Int)))],[(7,.box [.int .i64 (fun _=>n),alv us,alv os,rlv lo,rlv hi',alv rows,tsv ts,.bool (fun _=>c.neg),nat c.num,nat c.den,dlv path,llv lems]),(500,.log 3 (fun _=>enc rc (W j)))]⟩)
  (fun j=>j≤N) (fun j=>N - j) 0 (Nat.zero_le _) (.trans (.lend 500 10 rfl rfl trivial) (wkZ)) ?_
 intro j hj
 have lj:=f4 j hj
 cbv
 refine zF (fun h=>?_) (fun h=>?_)
 ·have hlt:j<N:=by rw[zA,f5] at h;(try dsimp only [zG] at *);omega
  obtain⟨a,y,z,g1,k1,k2,k3,k4⟩:=f1 j hlt
  have hT:=wQ rc (W j)
  have hfr:=u5 rc (W j)
  clear f1 f2 f3 f4
  generalize W j=Wj at *
  obtain⟨y1,y2,y3⟩:=y
  obtain⟨z1,z2,z3⟩:=z
  cbv
  refine yF g1 vR uR ?_
  cbv
  refine uC (.lend 500 60 rfl rfl ?_) rfl ?_ k1 rfl ?_
  ·cbv
   repeat' first | exact trivial | exact⟨hfr⟩ | apply And.intro
  ·cbv
   exact⟨okA,zQ hT,trivial⟩
  cbv
  refine yQ rfl okA k2 rfl ?_
  cbv
  refine⟨zH om om,?_⟩
  cbv
  refine zR (fun e1=>?_) (fun e1=>?_)
  rotate_left
  ·have g2:=k4 (fun w hw=>absurd (List.getElem?_eq_some_iff.1 hw).1 (by rw[zA] at e1;(try dsimp only [zG] at *);omega))
   cbv
   refine aL qS ?_
   cbv
   exact⟨zH om om,j+1,(by show j+1≤N;omega),(by show N - (j+1)<N - j;omega),.le (by cbv;repeat' first | exact trivial | exact lR | exact zE om | exact zW rfl (by rw[g2];simp [zL,zA];done) | apply And.intro) (by cbv;repeat' first | exact trivial | exact lR | exact zI (by rw[g2,←zT];rfl) | apply And.intro) rfl⟩
  obtain⟨w,hw⟩:=zS (l:=at') (i:=j+4) (by rw[zA] at e1;(try dsimp only [zG] at *);omega)
  have hj4:(j:Int)+4=((j+4:Nat):Int):=by omega
  cbv
  refine⟨zH om om,xC hw hj4 c7 bR ?_⟩
  cbv
  refine⟨wS om,?_⟩
  cbv
  refine zF (fun e2=>?_) (fun e2=>?_)
  ·have h4:w.toNat % 4=0:=by
    have e:irem ((w.toNat:Nat):Int) 4=((w.toNat % 4:Nat):Int):=vQ (b:=4)
    rw[e] at e2
    (try dsimp only [zG] at *)
    omega
   obtain⟨k,u,q1,q2,g2⟩:=k3 w hw h4
   obtain⟨u1,u2,u3⟩:=u
   cbv
   refine zO 10 (by cbv) ?_
   cbv
   refine⟨zH om om,xC hw hj4 c7 bR ?_⟩
   cbv
   refine⟨wS om,?_⟩
   cbv
   refine dA q1 ?_
   cbv
   refine dA q2 ?_
   cbv
   refine aL qS ?_
   cbv
   exact⟨zH om om,j+1,(by show j+1≤N;omega),(by show N - (j+1)<N - j;omega),.le (by cbv;repeat' first | exact trivial | exact lR | exact zE om | exact zW rfl (by rw[g2];simp [zL,zA];done) | apply And.intro) (by cbv;repeat' first | exact trivial | exact lR | exact zI (by rw[g2,←zT];rfl) | apply And.intro) rfl⟩
  ·have g2:=k4 (fun w' hw' h4=>e2 (by
    rw[hw] at hw'
    obtain rfl:=Option.some.inj hw'
    have e:irem ((w.toNat:Nat):Int) 4=((w.toNat % 4:Nat):Int):=vQ (b:=4)
    rw[e,h4]
    rfl))
   cbv
   refine aL qS ?_
   cbv
   exact⟨zH om om,j+1,(by show j+1≤N;omega),(by show N - (j+1)<N - j;omega),.le (by cbv;repeat' first | exact trivial | exact lR | exact zE om | exact zW rfl (by rw[g2];simp [zL,zA];done) | apply And.intro) (by cbv;repeat' first | exact trivial | exact lR | exact zI (by rw[g2,←zT];rfl) | apply And.intro) rfl⟩
 have hjn:j=N:=by rw[zA,f5] at h;(try dsimp only [zG] at *);omega
 subst hjn
 clear f1 h lj
 have lN:=f4 j (Nat.le_refl _)
 clear f4
 generalize W j=X at *
 have hT:=wQ rc X
 have hfr:=u5 rc X
 cbv
 refine cA cQq ?_
 cbv
 refine z4 (σ:=Nat) (fun i=>⟨[(7,.ptr 7 0),(9,rlv X),(14,rsv L),(15,.int .i64 (fun _=>(i:Int)))],[(7,.box [.int .i64 (fun _=>n),alv us,alv os,rlv lo,rlv hi',alv rows,tsv ts,.bool (fun _=>c.neg),nat c.num,nat c.den,dlv path,llv lems])]⟩)
  (fun i=>i≤L.length∧∀ k,k<i→NN k) (fun i=>L.length - i) 0 ⟨Nat.zero_le _,fun k h=>absurd h (by omega)⟩ (.trans (.frz 500 rfl rfl ?_ ?_) (.le ?_ okZ rfl)) ?_
 ·cbv
  repeat' first | exact trivial | exact⟨hfr⟩ | apply And.intro
 ·cbv
  repeat' first | exact trivial | apply And.intro
 ·cbv
  exact⟨lR,zQ hT,lR,zE rfl,trivial⟩
 intro i hi
 obtain⟨hi1,hi2⟩:=hi
 cbv
 refine zF (fun h=>?_) (fun h=>?_)
 ·have hlt:i<L.length:=by rw[zA] at h;(try dsimp only [zG] at *);omega
  obtain⟨r,⟨ft,fc⟩,⟨y1,y2,y3⟩,z,g1,cf,ce,cs,hz⟩:=f2 i hlt
  clear f2 f3
  cbv
  refine w5 11 [(10,16)] (by cbv) (by cbv) (by cbv) ?_
  cbv
  refine yF g1 jG gC ?_
  cbv
  refine dA cf ?_
  cbv
  refine cA ce ?_
  cbv
  refine xM rfl ?_
  cbv
  refine cA cs ?_
  cbv
  refine zF (fun e=>?_) (fun e=>?_)
  ·cbv
   (refine rC ?_;cbv)
   exact zX (decide_eq_true rfl)
  have hn:=hz e
  cbv
  exact⟨zH om om,i+1,⟨(by show i+1≤L.length;omega),fun k hk=>by
   by_cases e:k=i
   ·rw[e];exact hn
   ·exact hi2 k (by show k<i;have:k<i+1:=hk;omega)⟩,(by show L.length - (i+1)<L.length - i;omega),wkZ⟩
 have hin:i=L.length:=by rw[zA] at h;(try dsimp only [zG] at *);omega
 have f3':=f3 (fun k hk=>hi2 k (by omega))
 clear f2 f3 hi2 hi1 h cQq hin
 cbv
 refine z4 (σ:=Nat) (fun i=>⟨[(7,.ptr 7 0),(9,rlv X),(20,.int .i64 (fun _=>(i:Int)))],[(7,.box [.int .i64 (fun _=>n),alv us,alv os,rlv lo,rlv hi',alv rows,tsv ts,.bool (fun _=>c.neg),nat c.num,nat c.den,dlv path,llv lems])]⟩)
  (fun i=>i≤j) (fun i=>j - i) 0 (Nat.zero_le _) (wkZ) ?_
 intro i hi
 cbv
 refine zF (fun h=>?_) (fun h=>?_)
 ·have hlt:i<j:=by rw[zA,f5] at h;(try dsimp only [zG] at *);omega
  obtain⟨a,⟨y1,y2,y3⟩,m,ph,g1,k1,k2,k3⟩:=f3' i hlt
  clear f3'
  cbv
  refine yF g1 vR uR ?_
  cbv
  refine cA k1 ?_
  cbv
  refine zO 20 (by cbv) ?_
  cbv
  refine dA k2 ?_
  cbv
  refine zR (fun e=>?_) (fun e=>?_)
  ·cbv
   exact⟨zH om om,i+1,(by show i+1≤j;omega),(by show j - (i+1)<j - i;omega),wkZ⟩
  obtain⟨v,k,e1,e2,q1,q2⟩:=k3 e
  clear k3
  cbv
  refine⟨zH om om,xC e2 e1 yU xE ?_⟩
  cbv
  refine xG okA q1 rfl ?_
  cbv
  refine dA q2 ?_
  cbv
  refine xT rfl ?_
  cbv
  exact⟨zH om om,i+1,(by show i+1≤j;omega),(by show j - (i+1)<j - i;omega),wkZ⟩
 ·cbv
  (refine rC ?_;cbv)
  exact z7 rfl
end Go.Proofs.YtgcpehdkdnkgeaaGreat
