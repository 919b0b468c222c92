/- A part of the proof: LzA, LzB, BrD, EwC, EwD, LzC. -/
import Derived.Test.YtgcpehdkdnkgeaaGreatX40
import Derived.Test.YtgcpehdkdnkgeaaGreatX38
import Derived.Test.YtgcpehdkdnkgeaaGreatX35
import Derived.Test.YtgcpehdkdnkgeaaGreatX36
import Derived.Test.YtgcpehdkdnkgeaaGreatX34
import Derived.Test.YtgcpehdkdnkgeaaGreatX32
set_option linter.all false
namespace Go.Proofs.YtgcpehdkdnkgeaaGreat
open Go
set_option maxRecDepth 100000
set_option maxHeartbeats 4000000
theorem zTC (i:Nat):3≤KK i:=by unfold KK;split <;> decide
structure MkOk' (ms:List Mk):Prop where
 len:ms.length≤10
 v:∀ m,m∈ms→-128≤m.num∧m.num≤127
theorem zO5 {raw:List UInt8}{ms:List Mk}(h:MkOk' ms):LB KK (yS raw ms).lems:=fun m hm=>by
 obtain⟨k,hk,rfl⟩:=List.mem_map.1 hm
 obtain⟨h1,h2⟩:=h.v k hk
 refine⟨k.u.toNat % 5,rfl,?_⟩
 show Fits _ (zC (uD k.num 4)).q
 rw[zY]
 exact (zH2 h1 h2).mono (zTC _)
theorem iQ {raw:List UInt8}{ms:List Mk}(h:MkOk' ms):(yS raw ms).sz (2^20):=by
 have g:=nR raw
 refine⟨g.q.mono (by decide),g.path.mono (by decide),⟨?_,fun m hm=>?_,fun m hm=>?_⟩⟩
 ·show (ms.map mkL).length<2^38
  rw[List.length_map]
  have:=h.len
  omega
 ·obtain⟨k,hk,rfl⟩:=List.mem_map.1 hm
  obtain⟨h1,h2⟩:=h.v k hk
  exact (zU (zH2 h1 h2)).mono (by decide)
 ·obtain⟨k,hk,rfl⟩:=List.mem_map.1 hm
  exact⟨by show 0<2^38;decide,fun a ha=>absurd ha (by simp [mkL])⟩
theorem zBQ (raw:List UInt8):Dsz 43 (fdS raw).path:=(nR raw).path
theorem zO6 {raw:List UInt8}{ms:List Mk}(h:MkOk' ms){r:Row}{f:F}(hf:(yS raw ms).fm r=some f):f.fl 2718660 3000 :=
 zRP (s:=yS raw ms) (x:=(fdY raw 0).1) rfl (xA raw 0) (zBQ raw) (zO5 h) hf
theorem zGB (raw:List UInt8)(ms:List Mk):(yS raw ms).all.length≤100:=by
 have hx:=xA raw 0
 have hok:=cX raw 0
 obtain⟨A,B,C,D,Q⟩:=zCV (s:=yS raw ms) (hx.valid hok)
 rw[Q.e]
 have h:=Q.ld (yS raw ms).q.g.us.length
 have h1:(yS raw ms).q.g.n.toNat≤3:=by have:=hx.g.n2;show ((fdY raw 0).1.g.n:Int).toNat≤3;omega
 have h2:(yS raw ms).q.r.rows.length≤2:=by have:=hx.r.rows;show ((fdY raw 0).1.r.rows.map fA).length≤2;rw[List.length_map];exact this
 have h3:(yS raw ms).path.length≤3:=(oS raw).2
 have h4:(yS raw ms).q.g.us.length≤4:=by have:=hx.g.us;show ((fdY raw 0).1.g.us.map fA).length≤4;rw[List.length_map];exact this
 omega
theorem zGC {raw:List UInt8}{ms:List Mk}(h:MkOk' ms):zB 24 [sv (yS raw ms)] (rsv (yS raw ms).all)∧zB 26 [sv (yS raw ms)] (rsv (yS raw ms).all):=by
 have hx:=xA raw 0
 have h1:(yS raw ms).q.g.n≤1000000:=by have:=hx.g.n2;show ((fdY raw 0).1.g.n:Int)≤1000000;omega
 have h2:(yS raw ms).q.r.rows.length≤1000000:=by have:=hx.r.rows;show ((fdY raw 0).1.r.rows.map fA).length≤1000000;rw[List.length_map];omega
 have h3:(yS raw ms).path.length≤1000000:=by have:=(oS raw).2;show (fdS raw).path.length≤1000000;omega
 have h4:(yS raw ms).q.g.us.length≤1000000:=by have:=hx.g.us;show ((fdY raw 0).1.g.us.map fA).length≤1000000;rw[List.length_map];omega
 exact⟨zGJ _ (iQ h) h1 h2 h3 h4,zHK _ (iQ h) h1 h2 h3 h4⟩
theorem zBR {raw:List UInt8}{ms:List Mk}(h:MkOk' ms){r:Row}{f:F}(hf:(yS raw ms).fm r=some f):zB 27 [sv (yS raw ms),rwv r] (.tup [fv f,.bool (fun _=>true)]):=by
 have c:=rB (yS raw ms) r ((iQ h).mono (by decide))
 rw[hf] at c
 exact c
theorem zQY (l:List Row)(hl:l.length≤100):zB 25 [rsv l,rsv l] (.bool (fun _=>true)):=by
 refine sF Tryz.f25 ?_
 cbv
 refine zF (fun _=>?_) (fun h=>(h rfl).elim)
 cbv
 refine z4 (σ:=Nat) (fun i=>⟨[(0,rsv l),(1,rsv l),(5,.int .i64 (fun _=>(i:Int)))],[]⟩) (fun i=>i≤l.length) (fun i=>l.length - i) 0 (Nat.zero_le _) (wkZ) ?_
 intro i hi
 cbv
 refine zF (fun h=>?_) (fun h=>?_)
 ·have hlt:i<l.length:=by rw[zA] at h;(try dsimp only [zG] at *);omega
  obtain⟨r,g⟩:=zS hlt
  cbv
  refine zO 9 (by cbv) ?_
  cbv
  refine yF g jG gC ?_
  cbv
  refine yF g jG gC ?_
  cbv
  refine zKJ (a:=r) (b:=r) ?_
  cbv
  refine cZ (by simp) ?_
  cbv
  exact⟨zH om om,i+1,(by show i+1≤l.length;omega),(by show l.length - (i+1)<l.length - i;omega),wkZ⟩
 ·cbv
  (refine rC ?_;cbv)
  exact z7 rfl
theorem zQ7 (raw:List UInt8)(ms:List Mk)(hr:raw.length≤9223372036854775807)(hm:ms.length≤9223372036854775807)(hv:∀ m,m∈ms→-128≤m.num∧m.num≤127):zB 5 [u8v raw,mkv ms] (.bool (fun _=>true)):=by
 refine sF Tryz.f5 ?_
 have ca:=bX
 by_cases hs:400<raw.length∨10<ms.length
 ·have c0:=tL raw ms hr hm hs
  cbv
  refine cA ca ?_
  cbv
  refine vH rfl ?_
  cbv
  refine cA c0 ?_
  cbv
  refine cZ rfl ?_
  cbv
  (refine rC ?_;cbv)
  exact z7 rfl
 have hok:MkOk' ms:=⟨by omega,hv⟩
 have c0:=iD raw ms (by omega) (by omega) hv
 obtain⟨c1,c2⟩:=zGC (raw:=raw) hok
 have hl:=zGB raw ms
 have c3:=zQY (yS raw ms).all hl
 have facts:∀ i,i<(yS raw ms).all.length→∃ (r:Row) (f:A),(yS raw ms).all[i]?=some r∧zB 27 [sv (yS raw ms),rwv r] (.tup [av f,.bool (fun _=>true)])∧∀ k,k<i→∃ r',(yS raw ms).all[k]?=some r'∧r'≠r:=fun i hi=>by
  obtain⟨r,g⟩:=zS hi
  obtain⟨f,hf⟩:=zDS (s:=yS raw ms) (x:=(fdY raw 0).1) rfl (xA raw 0) (cX raw 0) r (List.mem_of_getElem? g)
  refine⟨r,_,g,zBR hok hf,fun k hk=>?_⟩
  obtain⟨r',g'⟩:=zS (l:=(yS raw ms).all) (i:=k) (by omega)
  exact⟨r',g',zIV (zJF _) g g' (by omega)⟩
 clear hok hv
 generalize (yS raw ms).all=L at *
 generalize yS raw ms=B at *
 obtain⟨⟨⟨n,us,os⟩,⟨lo,hi',rows⟩,⟨ts,c⟩⟩,path,lems⟩:=B
 cbv
 refine cA ca ?_
 cbv
 refine vH rfl ?_
 cbv
 refine cA c0 ?_
 cbv
 refine vH rfl ?_
 cbv
 refine cA c1 ?_
 cbv
 refine cA c2 ?_
 cbv
 refine cA c3 ?_
 cbv
 refine vH rfl ?_
 cbv
 clear c0 c1 c2 c3
 refine z4 (σ:=Nat) (fun i=>⟨[(5,.ptr 5 0),(7,rsv L),(8,.int .i64 (fun _=>(i:Int)))],[(5,.box [.int .i64 (fun _=>n),alv us,alv os,rlv lo,rlv hi',alv rows,tsv ts,.bool (fun _=>c.neg),nat c.num,nat c.den,dlv path,llv lems])]⟩)
  (fun i=>i≤L.length) (fun i=>L.length - i) 0 (Nat.zero_le _) (wkZ) ?_
 intro i hi
 cbv
 refine zF (fun h=>?_) (fun h=>?_)
 ·have hlt:i<L.length:=by rw[zA] at h;(try dsimp only [zG] at *);omega
  obtain⟨r,⟨ft,fc⟩,g1,cf,hd⟩:=facts i hlt
  clear facts
  cbv
  refine w5 11 [(10,9)] (by cbv) (by cbv) (by cbv) ?_
  cbv
  refine yF g1 jG gC ?_
  cbv
  refine dA cf ?_
  cbv
  refine vH rfl ?_
  cbv
  clear cf
  refine z4 (σ:=Nat) (fun k=>⟨[(5,.ptr 5 0),(7,rsv L),(8,.int .i64 (fun _=>(i:Int))),(11,.int .i64 (fun _=>(k:Int)))],[(5,.box [.int .i64 (fun _=>n),alv us,alv os,rlv lo,rlv hi',alv rows,tsv ts,.bool (fun _=>c.neg),nat c.num,nat c.den,dlv path,llv lems])]⟩)
   (fun k=>k≤i) (fun k=>i - k) 0 (Nat.zero_le _) (wkZ) ?_
  intro k hk
  cbv
  refine zF (fun h'=>?_) (fun h'=>?_)
  ·have hlt':k<i:=by (try dsimp only [zG] at *);omega
   obtain⟨r',g2,hne⟩:=hd k hlt'
   clear hd
   cbv
   refine zO 9 (by cbv) ?_
   cbv
   refine yF g2 jG gC ?_
   cbv
   refine yF g1 jG gC ?_
   cbv
   refine zCO (a:=r') (b:=r) ?_
   cbv
   refine cZ (by simp [hne]) ?_
   cbv
   exact⟨zH om om,k+1,(by show k+1≤i;omega),(by show i - (k+1)<i - k;omega),wkZ⟩
  ·cbv
   exact⟨zH om om,i+1,(by show i+1≤L.length;omega),(by show L.length - (i+1)<L.length - i;omega),wkZ⟩
 ·cbv
  (refine rC ?_;cbv)
  exact z7 rfl
theorem zI1 {raw:List UInt8}{ms:List Mk}{l:List Rat}(h:zJM (yS raw ms).lems (uJ (fdY raw 0).1.g l)=true):zBP (yS raw ms) (xr (xJ (fdY raw 0).1.g.us l)):=fun m hm i p hi hp=>by
 have hh:pH (uJ (fdY raw 0).1.g l) m=true:=List.all_eq_true.1 h m hm
 have hp':((fdY raw 0).1.g.us.map fA)[i]?=some p:=hp
 rw[List.getElem?_map] at hp'
 cases hf:(fdY raw 0).1.g.us[i]? with
 | none=>rw[hf] at hp';cases hp'
 | some f =>
  rw[hf] at hp'
  obtain rfl:=Option.some.inj hp'
  rw[vE]
  have hg:(uJ (fdY raw 0).1.g l)[m.u.toNat]?=some (f.at (xr (xJ (fdY raw 0).1.g.us l))):=by
   rw[hi,Int.toNat_natCast]
   unfold uJ
   rw[List.getElem?_map,hf]
   rfl
  unfold pH at hh
  rw[hg] at hh
  split
  ·rename_i hu
   have hh':(if m.up=true then decide (y7 (f.at (xr (xJ (fdY raw 0).1.g.us l))) m.v.q≤0) else decide (0≤y7 (f.at (xr (xJ (fdY raw 0).1.g.us l))) m.v.q))=true:=hh
   rw[if_pos hu] at hh'
   exact o8 (of_decide_eq_true hh')
  ·rename_i hu
   have hh':(if m.up=true then decide (y7 (f.at (xr (xJ (fdY raw 0).1.g.us l))) m.v.q≤0) else decide (0≤y7 (f.at (xr (xJ (fdY raw 0).1.g.us l))) m.v.q))=true:=hh
   rw[if_neg hu] at hh'
   exact zCP (of_decide_eq_true hh')
structure YPt (B:Scp) (at':List UInt8) (X VV:List R) (mb hb:Bool):Prop where
 ins:zB 28 [rgv B.q.r,u8v at'] (rlv X)
 mem:zB 29 [sv B,rlv X] (.bool (fun _=>mb))
 hld:zB 30 [sv B,rlv X] (.bool (fun _=>hb))
 val:zB 31 [gv B.q.g,rlv X] (.tup [rlv VV,.int .i64 (fun _=>0)])
 row:mb=true→hb=true→∀ r f,B.fm r=some f→∃ (y:R) (z:Int),zB 32 [av (fA f),rlv VV] (.tup [rv y,.int .i64 (fun _=>0)])∧zB 33 [rv y] (.int .i64 (fun _=>z))∧0≤z
theorem y_pt (raw:List UInt8){ms:List Mk}(at':List UInt8)(h:MkOk' ms)(ha:at'.length<2^38):∃ X VV mb hb,YPt (yS raw ms) at' X VV mb hb:=by
 have hx:=xA raw 0
 have hok:=cX raw 0
 have hz:=hx.sz
 have hio:=zGW raw at'
 refine⟨_,_,_,_,⟨zB7 (fdY raw 0).1.r at' hx.r (by have:=hx.g.n2;omega) ha,zHI (fdY raw 0).1 (fdS raw).path (yS raw ms).lems (jE at' 0 (fdY raw 0).1.r.bs) hx hok ((zBQ raw).mono (by decide)) hio,
  zQX (fdY raw 0).1 (fdS raw).path (yS raw ms).lems (jE at' 0 (fdY raw 0).1.r.bs) hx hok hio (fun m hm=>?_) (iQ h).lems.len,
  eK (fdY raw 0).1.g (jE at' 0 (fdY raw 0).1.r.bs) hx.g (b9 raw) (hz.g.mono (by decide)) hok.us hio.len (m:=20) (by decide) (by decide) hio.fit,fun hm hh r f hf=>?_⟩⟩
 ·obtain⟨i,hi,_⟩:=zO5 (raw:=raw) h m hm
  exact⟨by omega,(iQ (raw:=raw) h).lems.sz m hm⟩
 ·have hP:Pt (yS raw ms) (xr (xJ (fdY raw 0).1.g.us (jE at' 0 (fdY raw 0).1.r.bs))):=zRK (L:=(yS raw ms).lems) hx hok hio hm
  have hL:=zI1 (raw:=raw) (ms:=ms) hh
  exact zOD hio (zM5 (s:=yS raw ms) rfl hx hok r f hf) (zO6 h hf) (by decide) (zIQ hP hL hf)
theorem zSS (raw:List UInt8)(ms:List Mk)(at':List UInt8)(hr:raw.length≤9223372036854775807)(hm:ms.length≤9223372036854775807)(hv:∀ m,m∈ms→-128≤m.num∧m.num≤127)(ha:at'.length≤9223372036854775807):zB 6 [u8v raw,mkv ms,u8v at'] (.bool (fun _=>true)):=by
 refine sF Tryz.f6 ?_
 have ca:=bX
 by_cases hs:400<raw.length∨10<ms.length
 ·have c0:=tL raw ms hr hm hs
  cbv
  refine cA ca ?_
  cbv
  refine vH rfl ?_
  cbv
  refine cA c0 ?_
  cbv
  refine pK rfl ?_
  cbv
  (refine rC ?_;cbv)
  exact z7 rfl
 have hok:MkOk' ms:=⟨by omega,hv⟩
 have c0:=iD raw ms (by omega) (by omega) hv
 obtain⟨c1,_⟩:=zGC (raw:=raw) hok
 have hl:=zGB raw ms
 have hpt:at'.length≤40→∃ (X VV:List R) (mb hb:Bool),zB 28 [rgv (yS raw ms).q.r,u8v at'] (rlv X)∧zB 29 [sv (yS raw ms),rlv X] (.bool (fun _=>mb))∧zB 30 [sv (yS raw ms),rlv X] (.bool (fun _=>hb))∧zB 31 [gv (yS raw ms).q.g,rlv X] (.tup [rlv VV,.int .i64 (fun _=>0)]) ∧
   (mb=true→hb=true→∀ i,i<(yS raw ms).all.length→∃ (r:Row) (f:A) (y:R) (z:Int),(yS raw ms).all[i]?=some r∧zB 27 [sv (yS raw ms),rwv r] (.tup [av f,.bool (fun _=>true)])∧zB 32 [av f,rlv VV] (.tup [rv y,.int .i64 (fun _=>0)])∧zB 33 [rv y] (.int .i64 (fun _=>z))∧0≤z):=fun h=>by
  obtain⟨X,VV,mb,hb,p⟩:=y_pt raw at' hok (by omega)
  refine⟨X,VV,mb,hb,p.ins,p.mem,p.hld,p.val,fun h1 h2 i hi=>?_⟩
  obtain⟨r,g⟩:=zS hi
  obtain⟨f,hf⟩:=zDS (s:=yS raw ms) (x:=(fdY raw 0).1) rfl (xA raw 0) (cX raw 0) r (List.mem_of_getElem? g)
  obtain⟨y,z,e1,e2,e3⟩:=p.row h1 h2 r f hf
  exact⟨r,_,y,z,g,zBR hok hf,e1,e2,e3⟩
 clear hok hv
 generalize (yS raw ms).all=L at *
 generalize yS raw ms=B at *
 obtain⟨⟨⟨n,us,os⟩,⟨lo,hi',rows⟩,⟨ts,c⟩⟩,path,lems⟩:=B
 dsimp only at hpt
 cbv
 refine cA ca ?_
 cbv
 refine vH rfl ?_
 cbv
 refine cA c0 ?_
 cbv
 refine qQ rfl ?_
 cbv
 refine zF (fun h=>?_) (fun h=>?_)
 ·cbv
  (refine rC ?_;cbv)
  exact z7 rfl
 obtain⟨X,VV,mb,hb,d1,d2,d3,d4,facts⟩:=hpt (by rw[zA] at h;(try dsimp only [zG] at *);omega)
 clear hpt c0 ca
 cbv
 refine cA d1 ?_
 cbv
 refine cA d2 ?_
 cbv
 refine z5 (fun em=>?_) (fun em=>?_)
 rotate_left
 ·cbv
  (refine rC ?_;cbv)
  exact z7 rfl
 cbv
 refine cA d3 ?_
 cbv
 refine zV (fun eh=>?_) (fun eh=>?_)
 rotate_left
 ·cbv
  (refine rC ?_;cbv)
  exact z7 rfl
 have facts':=facts em eh
 clear facts
 cbv
 refine cA d4 ?_
 cbv
 refine cA c1 ?_
 cbv
 clear d1 d2 d3 d4 c1
 refine z4 (σ:=Nat) (fun i=>⟨[(7,.ptr 7 0),(10,rlv VV),(12,rsv L),(13,.int .i64 (fun _=>(i:Int)))],[(7,.box [.int .i64 (fun _=>n),alv us,alv os,rlv lo,rlv hi',alv rows,tsv ts,.bool (fun _=>c.neg),nat c.num,nat c.den,dlv path,llv lems])]⟩)
  (fun i=>i≤L.length) (fun i=>L.length - i) 0 (Nat.zero_le _) (wkZ) ?_
 intro i hi
 cbv
 refine zF (fun h=>?_) (fun h=>?_)
 ·have hlt:i<L.length:=by rw[zA] at h;(try dsimp only [zG] at *);omega
  obtain⟨r,⟨ft,fc⟩,⟨y1,y2,y3⟩,z,g1,cf,ce,cs,hz⟩:=facts' i hlt
  clear facts'
  cbv
  refine w5 11 [(10,14)] (by cbv) (by cbv) (by cbv) ?_
  cbv
  refine yF g1 jG gC ?_
  cbv
  refine dA cf ?_
  cbv
  refine cA ce ?_
  cbv
  refine qQ rfl ?_
  cbv
  refine xM rfl ?_
  cbv
  refine cA cs ?_
  cbv
  refine z9 (by omega) ?_
  cbv
  exact⟨zH om om,i+1,(by show i+1≤L.length;omega),(by show L.length - (i+1)<L.length - i;omega),wkZ⟩
 ·cbv
  (refine rC ?_;cbv)
  exact z7 rfl
theorem zSR (raw:List UInt8)(ms:List Mk)(r:Row)(hr:raw.length≤9223372036854775807)(hm:ms.length≤9223372036854775807)(hv:∀ m,m∈ms→-128≤m.num∧m.num≤127):zB 7 [u8v raw,mkv ms,rwv r] (.bool (fun _=>true)):=by
 refine sF Tryz.f7 ?_
 have ca:=bX
 by_cases hs:400<raw.length∨10<ms.length
 ·have c0:=tL raw ms hr hm hs
  obtain⟨r1,r2,r3,r4⟩:=r
  cbv
  refine cA ca ?_
  cbv
  refine vH rfl ?_
  cbv
  refine cA c0 ?_
  cbv
  refine cZ rfl ?_
  cbv
  (refine rC ?_;cbv)
  exact z7 rfl
 have hok:MkOk' ms:=⟨by omega,hv⟩
 have c0:=iD raw ms (by omega) (by omega) hv
 have cF:=rB (yS raw ms) r ((iQ hok).mono (by decide))
 obtain⟨X,VV,mb,hb,p⟩:=y_pt raw raw hok (by omega)
 obtain⟨d1,d2,d3,d4,facts⟩:=p
 cases hfm:(yS raw ms).fm r with
 | none =>
  rw[hfm] at cF
  have ceq:=zPI (fA F.zero) ⟨[],R0⟩ ⟨⟨by show 0<2^38;decide,fun t ht=>absurd ht (by simp [fA,tR,F.zero])⟩,by show (zC 0).sz _;rw[v5];exact mZ⟩ ⟨⟨by show 0<2^38;decide,fun t ht=>absurd ht (by simp)⟩,mZ⟩
  have hz:fA F.zero=⟨[],R0⟩:=by show (⟨[],zC 0⟩:A)=_;rw[v5]
  have cF':zB 27 [sv (yS raw ms),rwv r] (.tup [av (fA F.zero),.bool (fun _=>false)]):=cF
  rw[decide_eq_true hz,hz] at ceq
  rw[hz] at cF'
  clear cF d1 d2 d3 d4 facts hz hok hfm
  generalize yS raw ms=B at *
  obtain⟨⟨⟨n,us,os⟩,⟨lo,hi',rows⟩,⟨ts,c⟩⟩,path,lems⟩:=B
  obtain⟨r1,r2,r3,r4⟩:=r
  cbv
  refine cA ca ?_
  cbv
  refine vH rfl ?_
  cbv
  refine cA c0 ?_
  cbv
  refine vH rfl ?_
  cbv
  refine cA cF' ?_
  cbv
  refine cZ rfl ?_
  cbv
  refine cA ceq ?_
  cbv
  (refine rC ?_;cbv)
  exact lR
 | some f =>
  rw[hfm] at cF
  have cF':zB 27 [sv (yS raw ms),rwv r] (.tup [av (fA f),.bool (fun _=>true)]):=cF
  have facts':=fun h1 h2=>facts h1 h2 r f hfm
  clear cF facts hok hfm hv
  generalize yS raw ms=B at *
  generalize fA f=f' at *
  obtain⟨⟨⟨n,us,os⟩,⟨lo,hi',rows⟩,⟨ts,c⟩⟩,path,lems⟩:=B
  obtain⟨r1,r2,r3,r4⟩:=r
  obtain⟨ft,fc⟩:=f'
  cbv
  refine cA ca ?_
  cbv
  refine vH rfl ?_
  cbv
  refine cA c0 ?_
  cbv
  refine vH rfl ?_
  cbv
  refine cA cF' ?_
  cbv
  refine vH rfl ?_
  cbv
  refine cA d1 ?_
  cbv
  refine cA d2 ?_
  cbv
  refine z5 (fun em=>?_) (fun em=>?_)
  rotate_left
  ·cbv
   (refine rC ?_;cbv)
   exact z7 rfl
  cbv
  refine cA d3 ?_
  cbv
  refine zV (fun eh=>?_) (fun eh=>?_)
  rotate_left
  ·cbv
   (refine rC ?_;cbv)
   exact z7 rfl
  obtain⟨⟨y1,y2,y3⟩,z,ce,cs,hz⟩:=facts' em eh
  clear facts'
  cbv
  refine cA d4 ?_
  cbv
  refine cA ce ?_
  cbv
  refine xM rfl ?_
  cbv
  refine cA cs ?_
  cbv
  (refine rC ?_;cbv)
  exact zX (by rw[decide_eq_true hz])
theorem rMk (w:World):ElR w 121 3 (fun m:Mk=>-128≤m.num∧m.num≤127) mkc :=
 (elS3 (k0:=1) (k1:=1) (k2:=1) Tryz.underlying121 (by kernel_rfl) rfl rfl rfl (rU8 w) (zPQ w) (rI8 w)).map (fun a=>⟨a.1,a.2.1,a.2.2⟩) (fun _ _=>rfl) (fun _ h=>h.2.2)
theorem zDF (w:World):ElR w 60 1 (fun l:List Mk=>(∀ m,m∈l→-128≤m.num∧m.num≤127)∧l.length≤maxLen) (fun l=>[mkv l]) :=
 (iL (k:=3) Tryz.underlying60 (by kernel_rfl) (by decide) (rMk w)).map (fun l=>l) (fun _ _=>rfl) (fun _ h=>h)
theorem zSZ (w:World):ElR w 69 4 (fun _=>True) rwc:=rRow w
theorem zIM (q:Qry)(d:Dec)(X:List R)(hz:q.sz (2^31))(hd:d.x.sz (2^20))(h:(X.length:Int)≠q.g.n):zB 45 [qv q,dv d,rlv X] (.bool (fun _=>false)):=by
 refine sF Tryz.f45 ?_
 have cf:=zMU q d hz (hd.mono (by decide))
 generalize (q.valid && d.fits q)=fb at *
 obtain⟨⟨gn,us,os⟩,⟨lo,hi,rows⟩,⟨ts,c⟩⟩:=q
 obtain⟨dk,di,dx⟩:=d
 dsimp only at h
 cbv
 refine cA cf ?_
 cbv
 refine z5 (fun e1=>?_) (fun e1=>?_)
 ·cbv
  refine zF (fun e=>(h (by rw[zA] at e;(try dsimp only [zG] at *);omega)).elim) (fun e=>?_)
  cbv
  (refine rC ?_;cbv)
  exact zM rfl
 ·cbv
  (refine rC ?_;cbv)
  exact zM rfl
theorem zJ4 (s:Scp)(X:List R)(hz:s.q.sz (2^31))(h:s.q.valid=false∨(X.length:Int)≠s.q.g.n):zB 29 [sv s,rlv X] (.bool (fun _=>false)):=by
 refine sF Tryz.f29 ?_
 have cv:=zF4 s.q hz
 generalize s.q.valid=b at *
 obtain⟨⟨⟨gn,us,os⟩,⟨lo,hi,rows⟩,⟨ts,c1,c2,c3⟩⟩,path,lems⟩:=s
 dsimp only at h
 cbv
 refine cA cv ?_
 cbv
 refine z5 (fun e=>?_) (fun e=>?_)
 ·cbv
  refine zR (fun e'=>?_) (fun e'=>?_)
  ·rcases h with h | h
   ·rw[e] at h;cases h
   ·exact (h (by rw[zA] at e';(try dsimp only [zG] at *);omega)).elim
  ·cbv
   (refine rC ?_;cbv)
   exact zM rfl
 ·cbv
  (refine rC ?_;cbv)
  exact zM rfl
def mQ (raw:List UInt8):Nat→Nat→List Rat
 | 0,_=>[]
 | n+1,a=>(fdQ raw a).1::mQ raw n (fdQ raw a).2
theorem mP (raw:List UInt8):∀ n a,(mQ raw n a).length=n
 | 0,_=>rfl
 | n+1,a=>by simp only[mQ,List.length_cons,mP raw n]
theorem nS (raw:List UInt8):∀ n a q,q∈mQ raw n a→Fits 1 q
 | 0,_,q,h=>absurd h (by simp [mQ])
 | n+1,a,q,h=>by
  simp only[mQ,List.mem_cons] at h
  rcases h with rfl | h
  ·exact uU raw a
  ·exact nS raw n _ q h
theorem zLU (raw:List UInt8)(n:Nat)(hr:raw.length<2^38)(hn:n≤100):zB 43 [u8v raw,.int .i64 (fun _=>(n:Int))] (rlv ((mQ raw n 0).map zC)):=by
 refine sF Tryz.f43 ?_
 have c0:=zDC raw hr
 have cQ:∀ b:Nat,b≤raw.length→∃ (r:R) (b':Nat),r=zC (fdQ raw b).1∧b'=(fdQ raw b).2∧b'≤raw.length∧Sound 104 [.ptr 1000000 0] (fdo raw b) [] (rv r) (fdo raw b') []:=fun b h1=>⟨_,_,rfl,rfl,sW h1,zDB raw b hr h1⟩
 cbv
 refine xW (fun _=>8) (.refl _) rfl okA c0 trivial rfl rfl rfl rfl rfl rfl rfl rfl ?_
 cbv
 obtain⟨Z,hZ⟩:∃ Z,(mQ raw n 0).map zC=Z:=⟨_,rfl⟩
 rw[hZ]
 refine z4 (σ:=Nat × Nat × List R) (fun s=>⟨[(1,.int .i64 (fun _=>(n:Int))),(5,.ptr 8 0),(6,.osl 500 3 (fun _=>0) (fun _=>s.2.2.length)),(7,.int .i64 (fun _=>(s.1:Int)))],[(8,.box [u8v raw,.int .i64 (fun _=>(s.2.1:Int))]),(500,.arr 3 (fun _=>enc rc s.2.2))]⟩)
  (fun s=>s.1≤n∧s.2.1≤raw.length∧Z=s.2.2++(mQ raw (n - s.1) s.2.1).map zC∧s.2.2.length=s.1) (fun s=>n - s.1) (0,0,[]) ⟨Nat.zero_le _,Nat.zero_le _,by rw[←hZ];rfl,rfl⟩
  (.trans (wkZ (ps':=⟨[(1,.int .i64 (fun _=>(n:Int))),(5,.ptr 8 0),(6,.nil),(7,.int .i64 (fun _=>((0:Nat):Int)))],[(8,.box [u8v raw,.int .i64 (fun _=>((0:Nat):Int))])]⟩))
  (.trans (.adoptT (ps:=⟨[(1,.int .i64 (fun _=>(n:Int))),(5,.ptr 8 0),(6,.nil),(7,.int .i64 (fun _=>((0:Nat):Int)))],[(8,.box [u8v raw,.int .i64 (fun _=>((0:Nat):Int))])]⟩) 500 3 6 rfl rfl) (wkZ))) ?_
 intro s hs
 obtain⟨i,b,l⟩:=s
 obtain⟨g1,g2,g3,g4⟩:=hs
 dsimp only at g1 g2 g3 g4
 cbv
 refine zF (fun h=>?_) (fun h=>?_)
 ·have hi:i<n:=om
  rw[show n - i=(n - (i+1))+1 by omega] at g3
  obtain⟨r,b',e1,e2,hb',d1⟩:=cQ b g2
  have g3':Z=(l++[r])++(mQ raw (n - (i+1)) b').map zC:=by rw[g3,e1,e2,List.append_assoc];rfl
  clear cQ g3 e1 e2
  cbv
  refine xW (fun _=>8) (.refl _) rfl okA d1 ⟨⟨rfl,rfl⟩,trivial⟩ rfl rfl rfl rfl rfl rfl rfl rfl ?_
  cbv
  refine aO qS ?_
  cbv
  have hst:enc rc l++zL [rc r]=enc rc (l++[r]):=by rw[←zT];rfl
  refine⟨zH om om,(i+1,b',l++[r]),⟨om,hb',g3',by simp [g4]⟩,(by show n - (i+1)<n - i;omega),.le ?_ ?_ rfl⟩
  ·cbv
   repeat' first | exact trivial | exact lR | exact zE om | exact zW rfl (by simp [zL,zA]) | apply And.intro
  ·cbv
   repeat' first | exact trivial | exact lR | exact zE om | exact zI hst | apply And.intro
 ·have hin:i=n:=om
  subst hin
  have hZl:Z=l:=by rw[g3,Nat.sub_self];simp [mQ]
  subst hZl
  cbv
  refine qW _ (.trans (.le (ps':=⟨[(4,.osl 500 3 (fun _=>0) (fun _=>Z.length))],[(500,.arr 3 (fun _=>enc rc Z))]⟩) (by cbv;exact okA) (by cbv;exact⟨zI rfl,trivial⟩) rfl) (.frz 500 rfl rfl (by cbv;repeat' first | exact trivial | exact z8 (u5 rc _) | apply And.intro) (by cbv;repeat' first | exact trivial | apply And.intro))) rfl (by cbv;exact zQ (wQ rc _))
theorem zIO (raw:List UInt8)(hr:raw.length<2^38):zB 46 [u8v raw] (gv (fdG raw 0).1.g):=by
 refine sF Tryz.f46 ?_
 have c0:=zDC raw hr
 have c1:=zD8 raw 0 hr (Nat.zero_le _)
 generalize (fdG raw 0).1.g=G at *
 generalize (fdG raw 0).2=b at *
 obtain⟨n,us,os⟩:=G
 cbv
 refine xW (fun _=>8) (.refl _) rfl okA c0 trivial rfl rfl rfl rfl rfl rfl rfl rfl ?_
 cbv
 refine xW (fun _=>8) (.refl _) rfl okA c1 ⟨⟨rfl,rfl⟩,trivial⟩ rfl rfl rfl rfl rfl rfl rfl rfl ?_
 cbv
 (refine rC ?_;cbv)
 exact okA
theorem zJ5 (raw:List UInt8)(hr:raw.length<2^38):zB 35 [u8v raw] (qv (fdY raw 0).1.q):=by
 refine sF Tryz.f35 ?_
 have c0:=zDC raw hr
 have c1:=zPL raw 0 hr (Nat.zero_le _)
 generalize (fdY raw 0).1.q=Q at *
 generalize (fdY raw 0).2=b at *
 obtain⟨⟨gn,us,os⟩,⟨lo,hi,rows⟩,⟨ts,c⟩⟩:=Q
 cbv
 refine xW (fun _=>8) (.refl _) rfl okA c0 trivial rfl rfl rfl rfl rfl rfl rfl rfl ?_
 cbv
 refine xW (fun _=>8) (.refl _) rfl okA c1 ⟨⟨rfl,rfl⟩,trivial⟩ rfl rfl rfl rfl rfl rfl rfl rfl ?_
 cbv
 (refine rC ?_;cbv)
 exact okA
def outL (x:FGrp) (l:List Rat):List Rat:=x.os.map fun f=>f.at (xr (xJ x.us l))
theorem zJ7 (x:FGrp)(l:List Rat)(hx:x.small)(hv:x.g.valid=true)(hz:x.g.sz (2^32))(hw:∀ (i:Nat) (f:F),x.us[i]?=some f→f.wf ((x.n+i:Nat):Int))(hwo:∀ f,f∈x.os→f.wf ((x.n+x.us.length:Nat):Int))(hl:l.length=x.n){m:Nat}(hm:1≤m)(hm2:m≤2^10)(hf:∀ q,q∈l→Fits m q) :
  zB 49 [gv x.g,rlv (l.map zC)] (.tup [rlv ((outL x l).map zC),.int .i64 (fun _=>0)]):=by
 refine sF Tryz.f49 ?_
 have cf:=zAR x x.os l hx hv hz hw hl hm hm2 hf (by have:=hx.o2;omega) (fun f h=>⟨hx.of f h,hwo f h⟩)
 have e:gv x.g=.agg [.int .i64 (fun _=>(x.n:Int)),alv (x.us.map fA),alv (x.os.map fA)]:=rfl
 unfold outL
 rw[e] at cf ⊢
 generalize (x.os.map fun f=>f.at (xr (xJ x.us l))).map zC=Y at *
 generalize x.us.map fA=us at *
 generalize x.os.map fA=os at *
 generalize l.map zC=LL at *
 generalize (x.n:Int)=n at *
 cbv
 refine cA cf ?_
 cbv
 (refine rC ?_;cbv)
 exact okA
def qP (os:List F) (o:A):Nat→F
 | 0=>F.num o.c.q
 | i+1=>match o.ts[i]? with
  | none=>qP os o i
  | some t=>(qP os o i).add ((os.getD t.1.toNat F.zero).scale t.2.q)
theorem aE {os:List F}{o:A}{i:Nat}{t:Int × R}(h:o.ts[i]?=some t):qP os o (i+1)=(qP os o i).add ((os.getD t.1.toNat F.zero).scale t.2.q):=by
 rw[qP,h]
theorem zEV {α:Type}{P:α→Prop}{l:List α}{d:α}(h:∀ a,a∈l→P a)(hd:P d)(i:Nat):P (l.getD i d):=by
 rw[List.getD_eq_getElem?_getD]
 cases hi:l[i]? with
 | none=>exact hd
 | some a=>exact h a (List.mem_of_getElem? hi)
theorem oO {os:List F}{o:A}(hos:∀ f,f∈os→f.fl 43 7)(ho:o.sz 2):∀ i,(qP os o i).fl (2+60 * i) (7 * i)
 | 0=>(wY (ho.c.fits (by decide))).mono (by omega) (by omega)
 | i+1=>by
  have ih:=oO hos ho i
  cases h:o.ts[i]? with
  | none=>rw[qP,h];exact ih.mono (by omega) (by omega)
  | some t =>
   rw[aE h]
   have hq:Fits 2 t.2.q:=(ho.t.sz t (List.mem_of_getElem? h)).fits (by decide)
   exact (ih.add ((zEV hos (zero_fl.mono (by omega) (by omega)) t.1.toNat).scale hq)).mono (by omega) (by omega)
theorem zEU {os:List F}{o:A}{n:Int}(hos:∀ f,f∈os→f.wf n):∀ i,(qP os o i).wf n
 | 0=>F.wf.num _ _
 | i+1=>by
  have ih:=zEU hos (o:=o) i
  cases h:o.ts[i]? with
  | none=>rw[qP,h];exact ih
  | some t =>
   rw[aE h]
   exact ih.add (zEV hos (F.wf.zero0 n) t.1.toNat).scale
theorem zER:Pg.funcs[47]?=some Tryz.f47:=by rw[u7];rfl
theorem zNX (x:FGrp)(o:A)(hx:x.small)(hv:x.g.valid=true)(hz:x.g.sz (2^32))(ho:o.sz 2)(ht:o.ts.length≤6)(h:o.valid (x.os.length:Int)=true) :
  zB 47 [gv x.g,av o] (.tup [av (fA (qP x.os o o.ts.length)),.int .i64 (fun _=>0)]):=by
 refine xZ zER rfl rfl rfl rfl rfl ?_
 have cv:=sB x.g (hz.mono (by decide))
 rw[hv] at cv
 have cl:=fY o (x.os.length:Int) (ho.mono (by decide))
 rw[h] at cl
 have hw:=A.valid_wf h
 have cn:=pP o.c (ho.c.mono (by decide))
 have hfl:=oO hx.of ho
 have facts:∀ i,i<o.ts.length→∃ (z:Int) (j:Nat) (c:R) (a b:A),z=(j:Int)∧o.ts[i]?=some (z,c)∧(x.os.map fA)[j]?=some a∧zB 108 [av a,rv c] (av b)∧zB 107 [av (fA (qP x.os o i)),av b] (av (fA (qP x.os o (i+1)))):=fun i hi=>by
  obtain⟨t,hti⟩:=zS hi
  have hm:=List.mem_of_getElem? hti
  have hr:=hw.v (t.1,t.2.q) (List.mem_map.2 ⟨t,hm,rfl⟩)
  dsimp only at hr
  obtain⟨f,hf⟩:=zS (l:=x.os) (i:=t.1.toNat) (by omega)
  have hff:=hx.of f (List.mem_of_getElem? hf)
  have hq:Fits 2 t.2.q:=(ho.t.sz t hm).fits (by decide)
  have c1:=bB (fA f) t.2 ((sS hff (by decide)).mono (by decide)) ((ho.t.sz t hm).mono (by decide))
  rw[vE] at c1
  have c2:=zDA (fA (qP x.os o i)) (fA (f.scale t.2.q)) ((sS (hfl i) (by omega)).mono (by omega)) ((sS (hff.scale hq) (by decide)).mono (by decide))
  rw[vE,vE] at c2
  have eg:x.os.getD t.1.toNat F.zero=f:=by rw[List.getD_eq_getElem?_getD,hf];rfl
  refine⟨t.1,t.1.toNat,t.2,fA f,fA (f.scale t.2.q),by omega,hti,by rw[List.getElem?_map,hf];rfl,c1,?_⟩
  rw[aE hti,eg]
  exact c2
 obtain⟨V,hV⟩:∃ V:Nat→A,∀ i,fA (qP x.os o i)=V i:=⟨_,fun _=>rfl⟩
 have cn':zB 106 [rv o.c] (av (V 0)):=by rw[←hV];exact cn
 have hon:(x.os.map fA).length=x.os.length:=List.length_map ..
 rw[hV]
 simp only[hV] at facts
 have e:gv x.g=.agg [.int .i64 (fun _=>(x.n:Int)),alv (x.us.map fA),alv (x.os.map fA)]:=rfl
 rw[e] at cv ⊢
 clear hV cn hfl hw h hv hz ho hx e
 generalize x.us.map fA=us at *
 generalize x.os.map fA=os at *
 generalize (x.n:Int)=n at *
 generalize x.os.length=M at *
 obtain⟨T,oc⟩:=o
 dsimp only at ht facts cn' cl
 cbv
 refine cA cv ?_
 cbv
 refine qQ rfl ?_
 cbv
 refine yQ rfl (by exact⟨okA,zE (by rw[zA];(try dsimp only [zG] at *);omega),trivial⟩) cl rfl ?_
 cbv
 refine vH rfl ?_
 cbv
 refine cA cn' ?_
 cbv
 refine z4 (σ:=Nat) (fun i=>⟨[(2,.ptr 2 0),(4,.ptr 4 0),(6,.ptr 6 0),(25,tsv T),(26,.int .i64 (fun _=>((enc tc T).length:Int))),(27,.int .i64 (fun _=>(i:Int)))],
   [(2,.box [.int .i64 (fun _=>n),alv us,alv os]),(4,.box [.nil,.ff,.nil,.nil]),(6,.box [tsv (V i).ts,.bool (fun _=>(V i).c.neg),nat (V i).c.num,nat (V i).c.den])]⟩)
  (fun i=>i≤T.length) (fun i=>T.length - i) 0 (Nat.zero_le _) (wkZ) ?_
 intro i hi
 cbv
 refine zF (fun hc=>?_) (fun hc=>?_)
 ·have hlt:i<T.length:=by rw[zA] at hc;(try dsimp only [zG] at *);omega
  obtain⟨z,j,c,a,b,g0,g1,g2,k1,k2⟩:=facts i hlt
  clear facts cn' cl cv
  generalize hV1:V (i+1)=V1 at *
  generalize hVi:V i=Vi at *
  obtain⟨vt,vc⟩:=Vi
  obtain⟨wt,wc⟩:=V1
  obtain⟨bt,bc⟩:=b
  cbv
  refine yF g1 y4 y6 ?_
  cbv
  refine zO 11 (by cbv) ?_
  cbv
  refine xC g2 g0 vR uR ?_
  cbv
  refine dA k1 ?_
  cbv
  refine dA k2 ?_
  cbv
  exact⟨zH om om,i+1,(by show i+1≤T.length;omega),(by show T.length - (i+1)<T.length - i;omega),.le okZ (by cbv;rw[hV1];repeat' first | exact trivial | exact lR | apply And.intro) rfl⟩
 ·have hin:i=T.length:=by rw[zA] at hc;(try dsimp only [zG] at *);omega
  subst hin
  cbv
  (refine rC ?_;cbv)
  exact okA
theorem zJ3 (g:Grp)(o:A)(hv:g.valid=true)(hz:g.sz (2^32))(ho:o.sz (2^32))(h:o.valid (g.os.length:Int)=false) :
  zB 47 [gv g,av o] (.tup [av ⟨[],R0⟩,.int .i64 (fun _=>1)]):=by
 refine xZ zER rfl rfl rfl rfl rfl ?_
 have cv:=sB g (hz.mono (by decide))
 rw[hv] at cv
 have cl:=fY o (g.os.length:Int) (ho.mono (by decide))
 rw[h] at cl
 clear hz ho h hv
 obtain⟨n,us,os⟩:=g
 obtain⟨T,oc⟩:=o
 dsimp only at cl
 cbv
 refine cA cv ?_
 cbv
 refine qQ rfl ?_
 cbv
 refine yQ rfl (by exact⟨okA,zE (by rw[zA]),trivial⟩) cl rfl ?_
 cbv
 refine cZ rfl ?_
 cbv
 (refine rC ?_;cbv)
 exact okA
def Scp.phase (s:Scp) (j:Int):Int:=if s.q.valid=true∧0≤j∧j<(s.q.g.us.length:Int) then (if s.onU j=true then 1 else if s.offU j=true then 2 else 0) else 0
theorem zJ1 (s:Scp)(j:Int)(hs:s.sz (2^20)):zB 53 [sv s,.int .i64 (fun _=>j)] (.int .i64 (fun _=>s.phase j)):=by
 refine sF Tryz.f53 ?_
 have cv:=uS s.q (hs.q.mono (by decide))
 have cb:=zB6 s j hs.lems
 have cp:=zPF s j hs
 have hr:s.phase j=if s.q.valid=true∧0≤j∧j<(s.q.g.us.length:Int) then (if s.onU j=true then 1 else if s.offU j=true then 2 else 0) else 0:=rfl
 generalize s.phase j=res at *
 generalize s.onU j=on at *
 generalize s.offU j=off at *
 generalize (s.best j).1=b1 at *
 generalize (s.best j).2=b2 at *
 generalize s.q.valid=v at *
 clear hs
 obtain⟨⟨⟨gn,us,os⟩,⟨lo,hi,rows⟩,⟨ts,c1,c2,c3⟩⟩,path,L⟩:=s
 dsimp only at hr
 cbv
 refine cA cv ?_
 cbv
 refine z5 (fun e1=>?_) (fun e1=>?_)
 rotate_left
 ·rw[if_neg (by rw[e1];simp)] at hr
  cbv
  (refine rC ?_;cbv)
  exact zE hr.symm
 cbv
 refine zR (fun e2=>?_) (fun e2=>?_)
 ·rw[if_neg (by omega)] at hr
  cbv
  (refine rC ?_;cbv)
  exact zE hr.symm
 cbv
 refine zF (fun e3=>?_) (fun e3=>?_)
 ·rw[if_neg (by rw[zA] at e3;(try dsimp only [zG] at *);omega)] at hr
  cbv
  (refine rC ?_;cbv)
  exact zE hr.symm
 rw[if_pos ⟨e1,by omega,by rw[zA] at e3;(try dsimp only [zG] at *);omega⟩] at hr
 cbv
 refine cA cb ?_
 cbv
 refine cA cp ?_
 cbv
 refine zV (fun e4=>?_) (fun e4=>?_)
 ·rw[if_pos e4] at hr
  cbv
  (refine rC ?_;cbv)
  exact zE hr.symm
 rw[if_neg (by rw[e4];decide)] at hr
 cbv
 refine zV (fun e5=>?_) (fun e5=>?_)
 ·rw[if_pos e5] at hr
  cbv
  (refine rC ?_;cbv)
  exact zE hr.symm
 ·rw[if_neg (by rw[e5];decide)] at hr
  cbv
  (refine rC ?_;cbv)
  exact zE hr.symm
theorem zEI (raw:List UInt8)(d:Dec)(hd:d.x.sz (2^20))(l:List Rat)(h:InpOk (fdY raw 0).1 l∨l.length=(fdY raw 0).1.g.n+1) :
  ∃ b1 b2,zB 41 [sv (fdS raw),rlv (l.map zC)] (.bool (fun _=>b1))∧zB 29 [sv (fdS raw),rlv (l.map zC)] (.bool (fun _=>b1)) ∧
   zB 44 [qv (fdS raw).q,dv d,rlv (l.map zC)] (.bool (fun _=>b2))∧zB 45 [qv (fdS raw).q,dv d,rlv (l.map zC)] (.bool (fun _=>b2)):=by
 have hx:=xA raw 0
 have hok:=cX raw 0
 have n2:=hx.g.n2
 have hz:(fdS raw).q.sz (2^31):=(nR raw).q.mono (by decide)
 rcases h with h | h
 ·have hp:Dsz (2^20) (fdS raw).path:=(zBQ raw).mono (by decide)
  exact⟨_,_,zGI (fdY raw 0).1 (fdS raw).path [] l hx hok hp h,zHI (fdY raw 0).1 (fdS raw).path [] l hx hok hp h,zJ2 (fdY raw 0).1 d l hx hok hd h,zD6 (fdY raw 0).1 d l hx hok hd h⟩
 ·have hn:((l.map zC).length:Int)≠(fdS raw).q.g.n:=by
   show ((l.map zC).length:Int)≠((fdY raw 0).1.g.n:Int)
   rw[List.length_map];omega
  have hX:(l.map zC).length<2^40:=by rw[List.length_map];omega
  exact⟨_,_,zHG (fdS raw) _ hz (.inr hn) hX,zJ4 (fdS raw) _ hz (.inr hn),zIL (fdS raw).q d _ hz hd hn hX,zIM (fdS raw).q d _ hz hd hn⟩
theorem zST (raw at':List UInt8)(d:Dec)(hr:raw.length≤9223372036854775807)(ha:at'.length≤9223372036854775807):zB 9 [u8v raw,u8v at',dv d] (.bool (fun _=>true)):=by
 refine sF Tryz.f9 ?_
 have ca:=bX
 have hx:=xA raw 0
 have facts:raw.length≤400→at'.length≤40→d.x.num.length≤3→d.x.den.length≤3→∃ (X Y:List R) (b1 b2 b3 b4:Bool),zB 42 [u8v raw] (svN (fdS raw))∧zB 28 [rgv (fdS raw).q.r,u8v at'] (rlv X) ∧
   zB 43 [u8v at',.int .i64 (fun _=>((fdY raw 0).1.g.n+at'.length % 2:Nat))] (rlv Y) ∧
   (zB 41 [sv (fdS raw),rlv X] (.bool (fun _=>b1))∧zB 29 [sv (fdS raw),rlv X] (.bool (fun _=>b1)) ∧
    zB 44 [qv (fdS raw).q,dv d,rlv X] (.bool (fun _=>b2))∧zB 45 [qv (fdS raw).q,dv d,rlv X] (.bool (fun _=>b2))) ∧
   (zB 41 [sv (fdS raw),rlv Y] (.bool (fun _=>b3))∧zB 29 [sv (fdS raw),rlv Y] (.bool (fun _=>b3)) ∧
    zB 44 [qv (fdS raw).q,dv d,rlv Y] (.bool (fun _=>b4))∧zB 45 [qv (fdS raw).q,dv d,rlv Y] (.bool (fun _=>b4))):=fun h1 h2 h3 h4=>by
  have n2:=hx.g.n2
  have hd:d.x.sz (2^20):=⟨by omega,by omega⟩
  obtain⟨b1,b2,k⟩:=zEI raw d hd (jE at' 0 (fdY raw 0).1.r.bs) (.inl (zGW raw at'))
  obtain⟨b3,b4,k'⟩:=zEI raw d hd (mQ at' ((fdY raw 0).1.g.n+at'.length % 2) 0) (by
   by_cases e:at'.length % 2=0
   ·exact .inl ⟨by rw[mP];omega,fun q hq=>(nS at' _ _ q hq).mono (by decide)⟩
   ·exact .inr (by rw[mP];omega))
  exact⟨_,_,b1,b2,b3,b4,eH raw (by omega),zB7 (fdY raw 0).1.r at' hx.r (by omega) (by omega),zLU at' _ (by omega) (by omega),k,k'⟩
 have hn:(fdS raw).q.g.n=((fdY raw 0).1.g.n:Int):=rfl
 have hL:(fdS raw).lems=[]:=rfl
 have n2:=hx.g.n2
 clear hx
 generalize (fdY raw 0).1.g.n=n at *
 generalize fdS raw=B at *
 obtain⟨⟨⟨n',us,os⟩,⟨lo,hi',rows⟩,⟨ts,c⟩⟩,path,lems⟩:=B
 obtain⟨dk,di,dx⟩:=d
 dsimp only at facts hn hL
 subst hn hL
 cbv
 refine cA ca ?_
 cbv
 refine vH rfl ?_
 cbv
 refine zR (fun h1=>?_) (fun h1=>?_)
 ·cbv
  (refine rC ?_;cbv)
  exact z7 rfl
 cbv
 refine zR (fun h2=>?_) (fun h2=>?_)
 ·cbv
  (refine rC ?_;cbv)
  exact z7 rfl
 cbv
 refine zR (fun h3=>?_) (fun h3=>?_)
 ·cbv
  (refine rC ?_;cbv)
  exact z7 rfl
 cbv
 refine zF (fun h4=>?_) (fun h4=>?_)
 ·cbv
  (refine rC ?_;cbv)
  exact z7 rfl
 obtain⟨X,Y,b1,b2,b3,b4,c1,c2,c3,⟨m1,m2,m3,m4⟩,⟨k1,k2,k3,k4⟩⟩:=facts (by rw[zA] at h1;(try dsimp only [zG] at *);omega) (by rw[zA] at h2;(try dsimp only [zG] at *);omega) (by rw[zK] at h3;(try dsimp only [zG] at *);omega) (by rw[zK] at h4;(try dsimp only [zG] at *);omega)
 clear facts ca
 cbv
 refine cA c1 ?_
 cbv
 refine cA c2 ?_
 cbv
 have hpn:((n:Int)+irem ((enc u8c at').length:Int) 2)=((n+at'.length % 2:Nat):Int):=by
  rw[zA]
  have e:irem ((at'.length:Nat):Int) ((2:Nat):Int)=((at'.length % 2:Nat):Int):=vQ
  rw[show (2:Int)=((2:Nat):Int) from rfl,e]
  omega
 have hm2:=Nat.mod_lt at'.length (show 0<2 by decide)
 refine⟨wS (by decide),zH (by show _≤(n:Int)+_;rw[hpn];omega) (by show (n:Int)+_≤_;rw[hpn];omega),?_⟩
 refine yQ rfl (by exact⟨lR,zE hpn,trivial⟩) c3 rfl ?_
 cbv
 clear c1 c2 c3 hpn
 refine zO 42 (by cbv) ?_
 cbv
 refine dA m1 ?_
 cbv
 refine dA m2 ?_
 cbv
 refine xM rfl ?_
 cbv
 refine dA k1 ?_
 cbv
 refine dA k2 ?_
 cbv
 refine xM rfl ?_
 cbv
 refine dA m3 ?_
 cbv
 refine dA m4 ?_
 cbv
 refine xM rfl ?_
 cbv
 refine dA k3 ?_
 cbv
 refine dA k4 ?_
 cbv
 (refine rC ?_;cbv)
 exact zX (decide_eq_true rfl)
end Go.Proofs.YtgcpehdkdnkgeaaGreat
