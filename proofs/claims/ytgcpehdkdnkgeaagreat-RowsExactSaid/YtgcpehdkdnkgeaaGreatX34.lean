/- A part of the proof: RuA, RuB, RuC, RuD, RuE, RuF, RuG, RuH, RuI, SpV, UtB. -/
import Derived.Test.YtgcpehdkdnkgeaaGreatX33
import Derived.Test.YtgcpehdkdnkgeaaGreatX28
import Derived.Test.YtgcpehdkdnkgeaaGreatX30
import Derived.Test.YtgcpehdkdnkgeaaGreatX27
import Derived.Test.YtgcpehdkdnkgeaaGreatX29
import Derived.Test.YtgcpehdkdnkgeaaGreatX32
import Derived.Test.YtgcpehdkdnkgeaaGreatX23
set_option linter.all false
namespace Go.Proofs.YtgcpehdkdnkgeaaGreat
open Go
set_option maxRecDepth 100000
set_option maxHeartbeats 4000000
theorem zOO {s:Scp}{r:Row}{f:F}(hc:s.q.can)(h:s.fIn r=some f):Cn f.ts:=by
 unfold Scp.fIn at h
 split at h
 ·split at h
  ·obtain⟨x,_,rfl⟩:=Option.map_eq_some_iff.1 h
   exact iZ (aX _) Cn.nil
  ·split at h
   ·obtain⟨x,_,rfl⟩:=Option.map_eq_some_iff.1 h
    exact iZ (Cn.nil:Cn (F.num _).ts) (aX _)
   ·split at h
    ·obtain⟨x,hx,rfl⟩:=Option.map_eq_some_iff.1 h
     have:=(hc.rows x (List.mem_of_getElem? hx)).2
     rw[add_zero this]
     exact this
    ·split at h
     ·split at h
      ·split at h
       ·split at h
        ·cases h;exact iZ (aX _) Cn.nil
        ·split at h
         ·cases h;exact c8 (iZ (aX _) Cn.nil)
         ·cases h
       ·cases h
      ·cases h
     ·cases h
 ·cases h
theorem zMA {s:Scp}{r:Row}{f:F}(h:s.fm r=some f):Cn f.ts:=by
 unfold Scp.fm at h
 split at h
 ·cases h
 ·rename_i hv
  have hc:s.q.can:=Qry.can_of (by cases hvv:s.q.valid with
   | true=>rfl
   | false=>exact absurd (.inr (.inr hvv)) hv)
  split at h
  ·exact zOO hc h
  ·unfold Scp.fUn at h
   split at h
   ·split at h
    ·rename_i p hp
     exact zLH (hc.us p (List.mem_of_getElem? hp)).2 (aX _) h
    ·cases h
   ·cases h
structure SumOk (s:Scp) (l:List Mult):Prop where
 fm:∀ m,m∈l→∀ f,s.fm m.row=some f→f.fl (2^24) 5000
 c:Msz (2^20) l
 pre:∀ i acc,sumL s F.zero (l.take i)=some acc→acc.fl (2^26) (2^30)
theorem zAO {s:Scp}{m:Mult}{f:F}(hf:s.fm m.row=some f):∀ {l:List Mult} {acc acc':F},sumL s acc l=some acc'→sumL s acc (l++[m])=some (acc'.add (f.scale m.c.q))
 | [],acc,acc',h=>by
  cases h
  show (match s.fm m.row with | none=>none | some f=>sumL s (acc.add (f.scale m.c.q)) [])=_
  rw[hf];rfl
 | x::r,acc,acc',h=>by
  rw[List.cons_append]
  unfold sumL at h ⊢
  cases hx:s.fm x.row with
  | none=>rw[hx] at h;cases h
  | some g =>
   rw[hx] at h
   exact zAO hf h
theorem iY {α:Type}{l:List α}{i:Nat}{a:α}(h:l[i]?=some a):l.take (i+1)=l.take i++[a]:=by rw[List.take_add_one,h];rfl
theorem zN1 (s:Scp)(l:List Mult)(hs:s.sz (2^20))(hok:SumOk s l):zB 18 [sv s,mlv l] (.tup [fv (s.sum l).2,.int .i64 (fun _=>(s.sum l).1)]):=by
 refine sF Tryz.f18 ?_
 have hl:=hok.c
 have cc:=zQ2 l (hl.mono (by decide))
 have cf:=fun r=>zD7 s r (hs.mono (by decide))
 have h0:uE none l=false→s.sum l=(1,F.zero):=fun h=>if_pos h
 have h1:uE none l=true→sumL s F.zero l=none→s.sum l=(12,F.zero):=fun h g=>by unfold Scp.sum;rw[if_neg (by rw[h];decide),g]
 have h2:∀ f,uE none l=true→sumL s F.zero l=some f→s.sum l=(0,f):=fun f h g=>by unfold Scp.sum;rw[if_neg (by rw[h];decide),g]
 obtain⟨W,hW⟩:∃ W,W=fA (s.sum l).2:=⟨_,rfl⟩
 obtain⟨e,he⟩:∃ e,e=(s.sum l).1:=⟨_,rfl⟩
 rw[show fv (s.sum l).2=av W by rw[hW],←he]
 have g0:uE none l=false→W=⟨[],R0⟩∧e=1:=fun h=>by rw[h0 h] at hW he;exact⟨hW.trans uP,he⟩
 have g1:uE none l=true→sumL s F.zero l=none→W=⟨[],R0⟩∧e=12:=fun h g=>by rw[h1 h g] at hW he;exact⟨hW.trans uP,he⟩
 have g2:∀ f,uE none l=true→sumL s F.zero l=some f→W=fA f∧e=0:=fun f h g=>by rw[h2 f h g] at hW he;exact⟨hW,he⟩
 clear h0 h1 h2 hW he
 have hll:l.length<2^38:=hl.len
 have hsn:∀ acc m r,sumL s acc (m::r)=match s.fm m.row with
  | none=>none
  | some f=>sumL s (acc.add (f.scale m.c.q)) r:=fun _ _ _=>rfl
 have hfl:∀ m,m∈l→∀ f,s.fm m.row=some f→f.fl (2^24) 5000∧Cn f.ts:=fun m hm f h=>⟨hok.fm m hm f h,zMA h⟩
 have hpre:=hok.pre
 have hsn':∀ i m f acc,l[i]?=some m→s.fm m.row=some f→sumL s F.zero (l.take i)=some acc→sumL s F.zero (l.take (i+1))=some (acc.add (f.scale m.c.q)):=fun i m f acc h1 h2 h3=>by rw[iY h1];exact zAO h2 h3
 obtain⟨PR,hPR⟩:∃ PR:Nat→F→Prop,∀ i acc,PR i acc=(sumL s F.zero (l.take i)=some acc):=⟨_,fun _ _=>rfl⟩
 have hPR0:PR 0 F.zero:=by rw[hPR];rfl
 simp only[←hPR] at hpre hsn'
 have hms:=hl.sz
 obtain⟨T,hT⟩:∃ T:F→List Mult→Option F,sumL s=T:=⟨_,rfl⟩
 have hTn:∀ acc,T acc []=some acc:=fun acc=>by rw[←hT];rfl
 rw[hT] at hsn g1 g2
 generalize uE none l=cn at *
 clear hT hs hl hok hPR
 cbv
 refine cA cc ?_
 cbv
 refine zV (fun e1=>?_) (fun e1=>?_)
 rotate_left
 ·cbv
  obtain⟨q1,q2⟩:=g0 e1
  subst q1 q2
  (refine rC ?_;cbv)
  exact okA
 have g1':=g1 e1
 have g2':=fun f=>g2 f e1
 clear g0 g1 g2 cc
 cbv
 refine z4 (σ:=Nat × F) (fun st=>⟨[(1,mlv l),(2,.ptr 2 0),(4,.ptr 4 0),(6,.ptr 6 0),(7,.int .i64 (fun _=>(st.1:Int)))],[(2,.box (sc s)),(4,.box [.nil,.ff,.nil,.nil]),(6,.box [tsv (fA st.2).ts,.bool (fun _=>(fA st.2).c.neg),nat (fA st.2).c.num,nat (fA st.2).c.den])]⟩)
  (fun st=>st.1≤l.length∧T F.zero l=T st.2 (l.drop st.1)∧PR st.1 st.2∧Cn st.2.ts) (fun st=>l.length - st.1)
  (0,F.zero) ⟨om,rfl,hPR0,Cn.nil⟩ (.le okZ ?_ rfl) ?_
 ·show leO _ [(2,.box (sc s)),(4,.box [.nil,.ff,.nil,.nil]),(6,.box [tsv (fA F.zero).ts,.bool (fun _=>(fA F.zero).c.neg),nat (fA F.zero).c.num,nat (fA F.zero).c.den])]
  rw[uP]
  cbv
  exact okA
 intro st hst
 obtain⟨h1,hv,ha,hcn⟩:=hst
 generalize st.1=i at *
 generalize st.2=acc at *
 obtain⟨V,hV⟩:∃ V,fA acc=V:=⟨_,rfl⟩
 simp only[hV]
 cbv
 refine zF (fun h5=>?_) (fun h5=>?_)
 ·have hlt:=jR h5
  obtain⟨m,hm⟩:=zS hlt
  have hmem:=List.mem_of_getElem? hm
  rw[yE hm,hsn] at hv
  have cfm:=cf m.row
  have hmc:=hms m hmem
  have hxf:∀ f,s.fm m.row=some f→f.fl (2^24) 5000∧Cn f.ts:=fun f h=>hfl m hmem f h
  have hnx:∀ f,s.fm m.row=some f→PR (i+1) (acc.add (f.scale m.c.q)):=fun f h=>hsn' i m f acc hm h ha
  have hap:=hpre i acc ha
  generalize hx:s.fm m.row=o at *
  clear cf
  cases o with
  | none =>
   have hv':T F.zero l=none:=hv
   obtain⟨q1,q2⟩:=g1' hv'
   have cfm':zB 71 [sv s,rwv m.row] (.tup [av ⟨[],R0⟩,.bool (fun _=>false)]):=by
    have h:zB 71 [sv s,rwv m.row] (.tup [av (fA F.zero),.bool (fun _=>false)]):=cfm
    rw[uP] at h
    exact h
   clear cfm hv hv' g1' g2'
   subst q1 q2
   cbv
   refine w5 12 [(11,8)] (by cbv) (by cbv) (by cbv) ?_
   cbv
   refine yF hm jN w8 ?_
   cbv
   refine dA cfm' ?_
   cbv
   refine zV (fun e=>absurd e (by decide)) (fun _=>?_)
   cbv
   (refine rC ?_;cbv)
   exact okA
  | some f =>
   have hv':T F.zero l=T (acc.add (f.scale m.c.q)) (l.drop (i+1)):=hv
   obtain⟨hf,hfc⟩:=hxf f rfl
   have b1:=hf.scale (hmc.fits (by decide))
   have cs:=eG (fA f) m.c ((hf.fit (by decide)).fA.mono (by decide)) (hmc.mono (by decide))
   rw[vE] at cs
   have ca:=zPP hcn (c8 (q:=m.c.q) hfc) hap b1 (by decide) (by decide) (by decide) (by decide)
   have hacc:=hnx f rfl
   have hcn':Cn (acc.add (f.scale m.c.q)).ts:=hcn.mrg (c8 hfc)
   have cfm':zB 71 [sv s,rwv m.row] (.tup [av (fA f),.bool (fun _=>true)]):=cfm
   clear cfm hv hxf b1 ha hap hnx hcn hfc
   dsimp only [fv] at cs ca
   rw[hV] at ca
   generalize hA':acc.add (f.scale m.c.q)=acc' at *
   obtain⟨V',hV'⟩:∃ V',fA acc'=V':=⟨_,rfl⟩
   rw[hV'] at ca
   generalize fA (f.scale m.c.q)=X at *
   generalize fA f=Y at *
   cbv
   refine w5 12 [(11,8)] (by cbv) (by cbv) (by cbv) ?_
   cbv
   refine yF hm jN w8 ?_
   cbv
   refine dA cfm' ?_
   cbv
   refine zV (fun _=>?_) (fun e=>absurd e (by decide))
   cbv
   refine zO 9 (by cbv) ?_
   cbv
   refine yF hm jN w8 ?_
   cbv
   refine dA cs ?_
   cbv
   refine dA ca ?_
   cbv
   refine⟨zH om om,(i+1,acc'),⟨om,hv',hacc,hcn'⟩,om,.le okZ ?_ rfl⟩
   show leO _ [(2,.box (sc s)),(4,.box [.nil,.ff,.nil,.nil]),(6,.box [tsv (fA acc').ts,.bool (fun _=>(fA acc').c.neg),nat (fA acc').c.num,nat (fA acc').c.den])]
   rw[hV']
   cbv
   exact okA
 ·have hi:i=l.length:=aG h5 h1
  rw[hi,List.drop_length,hTn] at hv
  obtain⟨q1,q2⟩:=g2' acc hv
  rw[hV] at q1
  clear g1' g2' hv
  subst q1 q2
  cbv
  (refine rC ?_;cbv)
  exact okA
theorem zHA {s:Scp}:∀ {l:List Mult} {acc f:F},Cn acc.ts→sumL s acc l=some f→Cn f.ts
 | [],acc,f,h,e=>by cases e;exact h
 | m::r,acc,f,h,e=>by
  unfold sumL at e
  cases hx:s.fm m.row with
  | none=>rw[hx] at e;cases e
  | some g =>
   rw[hx] at e
   exact zHA (h.mrg (c8 (zMA hx))) e
theorem Scp.sum_can (s:Scp)(l:List Mult):Cn (s.sum l).2.ts:=by
 unfold Scp.sum
 split
 ·exact Cn.nil
 ·split
  ·exact Cn.nil
  ·rename_i h
   exact zHA (acc:=F.zero) Cn.nil h
theorem Scp.sum_fl' {s:Scp}{l:List Mult}(h:SumOk s l):(s.sum l).2.fl (2^26) (2^30):=by
 unfold Scp.sum
 split
 ·exact zero_fl.mono (by decide) (by decide)
 ·split
  ·exact zero_fl.mono (by decide) (by decide)
  ·rename_i f hf
   exact h.pre l.length f (by rw[List.take_length];exact hf)
theorem zO8 {vars:Int}:∀ {ts:List (Int × R)} {p:Int},vT vars p ts=true→∀ t,t∈tq ts→0≤t.1∧t.1<vars
 | [],p,_,t,ht=>absurd ht (by simp [tq])
 | x::r,p,h,t,ht=>by
  unfold vT at h
  simp only[Bool.and_eq_true,decide_eq_true_eq] at h
  rcases List.mem_cons.1 (show t∈(x.1,x.2.q)::tq r from ht) with rfl | ht
  ·exact⟨h.1.1.1.1.1,h.1.1.1.1.2⟩
  ·exact zO8 h.2 t ht
theorem A.valid_wf {a:A}{vars:Int}(h:a.valid vars=true):a.f.wf vars:=⟨(gJ h).2,fun t ht=>by
 unfold A.valid at h
 rw[Bool.and_eq_true] at h
 exact zO8 h.1 t ht⟩

theorem eI (s:Scp)(unit:Int)(hs:Lsz (2^20) s.lems):zB 83 [sv s,.int .i64 (fun _=>unit)] (.tup [.int .i64 (fun _=>((s.best unit).1:Int)),.int .i64 (fun _=>((s.best unit).2:Int))]):=by
 refine sF Tryz.f83 ?_
 have hll:=hs.len
 obtain⟨⟨⟨gn,us,os⟩,⟨lo,hi,rows⟩,⟨ts,c1,c2,c3⟩⟩,path,L⟩:=s
 dsimp only at hs hll
 have cc:∀ m m',m∈L→m'∈L→zB 54 [rv m.v,rv m'.v] (.int .i64 (fun _=>y7 m.v.q m'.v.q)):=fun m m' h h'=>s42 m.v m'.v ((hs.sz m h).mono (by decide)) ((hs.sz m' h').mono (by decide))
 have hst:∀ n m r b,qR L unit n (m::r) b=qR L unit (n+1) r (if m.u=unit then (if m.up=true then (if b.2=0∨y7 m.v.q (xV L b.2)<0 then (b.1,n+1) else b) else (if b.1=0∨0<y7 m.v.q (xV L b.1) then (n+1,b.2) else b)) else b):=fun _ _ _ _=>rfl
 have hva:∀ k m,L[k - 1]?=some m→xV L k=m.v.q:=fun k m h=>by unfold xV;rw[h];rfl
 have hni:∀ n b,qR L unit n [] b=b:=fun _ _=>rfl
 have hgoal:((⟨⟨⟨gn,us,os⟩,⟨lo,hi,rows⟩,⟨ts,c1,c2,c3⟩⟩,path,L⟩:Scp).best unit)=qR L unit 0 L (0,0):=rfl
 rw[hgoal]
 obtain⟨B,hB⟩:∃ B,qR L unit 0 L (0,0)=B:=⟨_,rfl⟩
 rw[hB]
 obtain⟨B1,B2⟩:=B
 dsimp only
 generalize qR L unit=BG at *
 clear hgoal
 cbv
 refine z4 (σ:=Nat × Nat × Nat) (fun st=>⟨[(1,.int .i64 (fun _=>unit)),(2,.ptr 2 0),(6,.int .i64 (fun _=>(st.2.1:Int))),(7,.int .i64 (fun _=>(st.2.2:Int))),(8,.int .i64 (fun _=>((st.1+1:Nat):Int)))],[(2,.box [.int .i64 (fun _=>gn),alv us,alv os,rlv lo,rlv hi,alv rows,tsv ts,.bool (fun _=>c1),nat c2,nat c3,dlv path,llv L])]⟩)
  (fun st=>st.1≤L.length∧BG st.1 (L.drop st.1) st.2=(B1,B2)∧st.2.1≤L.length∧st.2.2≤L.length) (fun st=>L.length - st.1)
  (0,0,0) ⟨by show 0≤_;omega,hB,Nat.zero_le _,Nat.zero_le _⟩ (wkZ) ?_
 intro st hst'
 obtain⟨i,b1,b2⟩:=st
 obtain⟨h1,h2,h3,h4⟩:=hst'
 dsimp only at h1 h2 h3 h4
 clear hB
 cbv
 refine zF (fun h5=>?_) (fun h5=>?_)
 ·rw[zA] at h5
  have hlt:i<L.length:=by (try dsimp only [zG] at *);omega
  obtain⟨m,hm⟩:=zS hlt
  have hmem:=List.mem_of_getElem? hm
  rw[yE hm,hst] at h2
  have idx:∀ {K:List PV→Prop},K (lc m)→IdxOk 6 (fun _=>enc lc L) (fun _=>((i+1:Nat):Int) - 1) K:=fun hK=>xC hm (by omega) vD uO hK
  have hin:∀ k:Nat,k≤L.length→¬ k=0→∃ m',m'∈L∧xV L k=m'.v.q∧∀ {K:List PV→Prop},K (lc m')→IdxOk 6 (fun _=>enc lc L) (fun _=>(k:Int) - 1) K:=fun k hk h0=>by
   obtain⟨m',hm'⟩:=zS (l:=L) (i:=k - 1) (by omega)
   exact⟨m',List.mem_of_getElem? hm',hva k m' hm',fun hK=>xC hm' (by omega) vD uO hK⟩
  clear hst hva
  cbv
  refine⟨zH om om,idx ?_⟩
  cbv
  refine zF (fun e1=>?_) (fun e1=>?_)
  ·rw[if_pos e1] at h2
   cbv
   refine zO 19 (by cbv) ?_
   cbv
   refine z5 (fun e2=>?_) (fun e2=>?_)
   ·rw[if_pos e2] at h2
    cbv
    refine zR (fun e3=>?_) (fun e3=>?_)
    ·have e3':b2=0:=by (try dsimp only [zG] at *);omega
     rw[if_pos (.inl e3')] at h2
     cbv
     refine zO 20 (by cbv) ?_
     cbv
     refine z5 (fun e4=>?_) (fun e4=>by rw[e2] at e4;cases e4)
     cbv
     exact⟨zH om om,(i+1,b1,(i+1)),⟨om,h2,(by show b1≤_;omega),(by show (i+1)≤_;omega)⟩,om,wkZ⟩
    have e3':¬ b2=0:=by (try dsimp only [zG] at *);omega
    obtain⟨m',hm',hv',idx'⟩:=hin b2 h4 e3'
    have cx:=cc m m' hmem hm'
    rw[hv'] at h2
    generalize y7 m.v.q m'.v.q=x at *
    cbv
    refine⟨zH om om,idx' ?_⟩
    cbv
    refine dA cx ?_
    cbv
    refine zF (fun e5=>?_) (fun e5=>?_)
    ·rw[if_pos (.inr e5)] at h2
     cbv
     refine zO 20 (by cbv) ?_
     cbv
     refine z5 (fun e4=>?_) (fun e4=>by rw[e2] at e4;cases e4)
     cbv
     exact⟨zH om om,(i+1,b1,(i+1)),⟨om,h2,(by show b1≤_;omega),(by show (i+1)≤_;omega)⟩,om,wkZ⟩
    ·rw[if_neg (fun h=>h.elim e3' e5)] at h2
     cbv
     refine zO 20 (by cbv) ?_
     cbv
     refine z5 (fun e4=>?_) (fun e4=>by rw[e2] at e4;cases e4)
     cbv
     exact⟨zH om om,(i+1,b1,b2),⟨om,h2,(by show b1≤_;omega),(by show b2≤_;omega)⟩,om,wkZ⟩
   ·rw[if_neg (by rw[e2];decide)] at h2
    cbv
    refine zO 20 (by cbv) ?_
    cbv
    refine z5 (fun e4=>by rw[e2] at e4;cases e4) (fun e4=>?_)
    cbv
    refine zR (fun e3=>?_) (fun e3=>?_)
    ·have e3':b1=0:=by (try dsimp only [zG] at *);omega
     rw[if_pos (.inl e3')] at h2
     cbv
     exact⟨zH om om,(i+1,(i+1),b2),⟨om,h2,(by show (i+1)≤_;omega),(by show b2≤_;omega)⟩,om,wkZ⟩
    have e3':¬ b1=0:=by (try dsimp only [zG] at *);omega
    obtain⟨m',hm',hv',idx'⟩:=hin b1 h3 e3'
    have cx:=cc m m' hmem hm'
    rw[hv'] at h2
    generalize y7 m.v.q m'.v.q=x at *
    cbv
    refine⟨zH om om,idx' ?_⟩
    cbv
    refine dA cx ?_
    cbv
    refine zF (fun e5=>?_) (fun e5=>?_)
    ·rw[if_pos (.inr e5)] at h2
     cbv
     exact⟨zH om om,(i+1,(i+1),b2),⟨om,h2,(by show (i+1)≤_;omega),(by show b2≤_;omega)⟩,om,wkZ⟩
    ·rw[if_neg (fun h=>h.elim e3' e5)] at h2
     cbv
     exact⟨zH om om,(i+1,b1,b2),⟨om,h2,(by show b1≤_;omega),(by show b2≤_;omega)⟩,om,wkZ⟩
  ·rw[if_neg e1] at h2
   cbv
   exact⟨zH om om,(i+1,b1,b2),⟨om,h2,(by show b1≤_;omega),(by show b2≤_;omega)⟩,om,wkZ⟩
 ·have hi:i=L.length:=by rw[zA] at h5;(try dsimp only [zG] at *);omega
  rw[hi,List.drop_length,hni] at h2
  obtain⟨q1,q2⟩:=Prod.mk.inj h2
  subst q1 q2
  cbv
  (refine rC ?_;cbv)
  exact okA
theorem zN2 (a b:List (Row × Rat))(c:R)(ha:∀ t,t∈a→Fits (2^28) t.2)(hal:a.length≤2^36)(hb:∀ t,t∈b→Fits (2^20) t.2)(hbl:b.length≤64)(hc:c.sz (2^20)) :
  zB 188 [mlv (mR a),mlv (mR b),rv c] (mlv (mR (kL a b c.q))):=by
 refine sF Tryz.f188 ?_
 have hcf:Fits (2^20) c.q:=hc.fits (by decide)
 have c1:∀ q,Fits (2^20) q→zB 57 [rv (zC q),rv c] (rv (zC (q * c.q))):=fun q hq=>by
  have:=s77 (zC q) c ((zU hq).mono (by decide)) (hc.mono (by decide))
  rw[zY] at this
  exact this
 have c2:∀ (l:List (Row × Rat)) (r:Row) (q:Rat),Mfit (2^30) l→Fits (2^21) q→zB 69 [mlv (mR l),rwv r,rv (zC q)] (mlv (mR (plMq l r q))):=fun l r q hl hq=>by
  have:=sPlM l r (zC q) hl ((zU hq).mono (by decide))
  rw[zY] at this
  exact this
 obtain⟨A0,hA0⟩:∃ n:Nat,n=2^28:=⟨_,rfl⟩
 obtain⟨L0,hL0⟩:∃ n:Nat,n=2^36:=⟨_,rfl⟩
 obtain⟨D0,hD0⟩:∃ n:Nat,n=2^21+1:=⟨_,rfl⟩
 rw[←hA0] at ha
 rw[←hL0] at hal
 have hAD:∀ i:Nat,i≤64→A0+i * D0≤2^30:=fun i hi=>by
  have:i * D0≤64 * D0:=Nat.mul_le_mul_right _ hi
  omega
 obtain⟨G,hG⟩:∃ G:List (Row × Rat)→List (Row × Rat)→List (Row × Rat),∀ x y,G x y=kL x y c.q:=⟨_,fun _ _=>rfl⟩
 have hn:∀ x,G x []=x:=fun x=>by rw[hG];rfl
 have hs:∀ x t r,G x (t::r)=G (plMq x t.1 (t.2 * c.q)) r:=fun x t r=>by rw[hG,hG];rfl
 rw[←hG]
 obtain⟨res,hres⟩:∃ r,G a b=r:=⟨_,rfl⟩
 rw[hres]
 clear hG
 have hbm:∀ (i:Nat) t,b[i]?=some t→(mR b)[i]?=some ⟨t.1,zC t.2⟩:=fun i t h=>by simp [mR,List.getElem?_map,h]
 have hbl':(mR b).length=b.length:=dJ b
 cbv
 refine z4 (σ:=Nat × List (Row × Rat)) (fun s=>⟨[(0,mlv (mR s.2)),(1,mlv (mR b)),(5,.ptr 5 0),(7,.int .i64 (fun _=>(s.1:Int)))],[(5,.box [.bool (fun _=>c.neg),nat c.num,nat c.den])]⟩)
  (fun s=>s.1≤b.length∧G s.2 (b.drop s.1)=res∧(∀ t,t∈s.2→Fits (A0+s.1 * D0) t.2)∧s.2.length≤L0+s.1) (fun s=>b.length - s.1)
  (0,a) ⟨Nat.zero_le _,hres,by simpa using ha,by simpa using hal⟩ (wkZ) ?_
 intro st hst
 obtain⟨i,acc⟩:=st
 obtain⟨h1,h2,h3,h4⟩:=hst
 dsimp only at h1 h2 h3 h4
 clear hres
 cbv
 refine zF (fun h5=>?_) (fun h5=>?_)
 ·rw[zA,hbl'] at h5
  have hlt:i<b.length:=by (try dsimp only [zG] at *);omega
  obtain⟨t,ht⟩:=zS hlt
  have hm:=hbm i t ht
  have hq:=hb t (List.mem_of_getElem? ht)
  rw[yE ht,hs] at h2
  obtain⟨r,q⟩:=t
  dsimp only at h2 hm hq
  have d1:=c1 q hq
  have d2:=c2 acc r (q * c.q) ⟨by omega,fun t ht=>(h3 t ht).mono (hAD i (by omega))⟩ ((xP hq hcf).mono (by decide))
  have h3':=zEC (r:=r) ((xP hq hcf).mono (show _≤2^21 by decide)) h3
  have h4':=zKH acc r (q * c.q)
  generalize plMq acc r (q * c.q)=acc' at *
  generalize zC (q * c.q)=Y at *
  generalize zC q=X at *
  clear c1 c2 hs hn
  cbv
  refine zO 14 (by cbv) ?_
  cbv
  refine yF hm jN w8 ?_
  cbv
  refine yF hm jN w8 ?_
  cbv
  refine dA d1 ?_
  cbv
  refine dA d2 ?_
  cbv
  exact⟨zH om om,(i+1,acc'),⟨om,h2,fun t ht=>(h3' t ht).mono (by show _≤A0+(i+1) * D0;rw[Nat.succ_mul];omega),(by show acc'.length≤L0+(i+1);omega)⟩,om,wkZ⟩
 ·have hi:i=b.length:=by rw[zA,hbl'] at h5;(try dsimp only [zG] at *);omega
  rw[hi,List.drop_length,hn] at h2
  subst h2
  cbv
  (refine rC ?_;cbv)
  exact lR
theorem zQ4 (s:Scp)(v:Int)(hv:-4611686018427387904≤v)(hv2:v<4611686018427387904)(hn:0≤s.q.g.n)(hn2:s.q.g.n≤256):zB 187 [sv s,.int .i64 (fun _=>v)] (mlv (mR (s.atLeastM v))):=by
 refine sF Tryz.f187 ?_
 have c1:=s32 1 (by decide) (by decide)
 rw[show (((1:Int):Rat))=(1:Rat) by rfl] at c1
 have h1:v<s.q.g.n→mR (s.atLeastM v)=[⟨⟨1,v,0,0⟩,zC 1⟩]:=fun h=>by unfold Scp.atLeastM;rw[if_pos h];rfl
 have h2:¬ v<s.q.g.n→mR (s.atLeastM v)=[⟨⟨5,v - s.q.g.n,0,0⟩,zC 1⟩]:=fun h=>by unfold Scp.atLeastM;rw[if_neg h];rfl
 generalize mR (s.atLeastM v)=res at *
 generalize zC 1=O1 at *
 cbv
 refine zF (fun e=>?_) (fun e=>?_)
 ·rw[h1 e]
  cbv
  refine cA c1 ?_
  cbv
  (refine rC ?_;cbv)
  exact zQ rfl
 ·rw[h2 e]
  cbv
  refine zO 10 (by cbv) ?_
  cbv
  refine⟨zH om om,?_⟩
  cbv
  refine dA c1 ?_
  cbv
  (refine rC ?_;cbv)
  exact zQ rfl
theorem zS2 (x y:R):mkRat (sgn (x.neg != y.neg) (val x.num * y.d)) (x.d * val y.num)=x.q / y.q:=by
 rw[Rat.div_def,R.q,R.q,←Rat.divInt_ofNat,←Rat.divInt_ofNat,←Rat.divInt_ofNat,Rat.inv_divInt,Rat.divInt_mul_divInt]
 unfold R.n sgn
 cases x.neg <;> cases y.neg <;> simp [Rat.divInt_neg',Int.neg_mul,Int.mul_neg]
theorem zII {q:Rat}:yB q=0↔q=0:=by unfold yB;split <;> (try split) <;> constructor <;> grind
theorem s182 (x y:R)(hx:x.sz (2^31))(hy:y.sz (2^31))(h0:y.q≠0):zB 217 [rv x,rv y] (.tup [rv (zC (x.q / y.q)),.int .i64 (fun _=>(0:Int))]):=by
 refine sF Tryz.f217 ?_
 have h1:=hx.n
 have h2:=hx.d
 have h3:=hy.n
 have h4:=hy.d
 have h7:=aB x.den
 have h8:=aB y.den
 have hyn:val y.num≠0:=fun h=>h0 (by
  have:y.n=0:=by unfold R.n;rw[h];simp [sgn]
  rw[R.q,this];simp)
 have csg:=s35 y (by omega)
 have hsg:¬ yB y.q=0:=fun h=>h0 (zII.1 h)
 have cux:=s100 x.den (by omega)
 have cuy:=s100 y.den (by omega)
 have cm:=s99 (qL x.den) y.num (by omega) (by omega)
 have hml:=jP (qL x.den) y.num
 rw[fC] at cm hml
 have cn:=s99 x.num (qL y.den) (by omega) (by omega)
 have hnl:=jP x.num (qL y.den)
 rw[fC] at cn hnl
 have cq:=s102 (x.neg != y.neg) (zJ (val x.num * y.d)) (zJ (x.d * val y.num)) (by omega) (by omega) (by rw[zP];exact Nat.mul_ne_zero x.d_ne hyn)
 rw[zP,zP,zS2] at cq
 have hb:(x.neg != y.neg)=!decide (x.neg=y.neg):=by cases x.neg <;> cases y.neg <;> rfl
 clear hml hnl hx hy h0
 generalize zC (x.q / y.q)=W at *
 generalize yB y.q=sg at *
 generalize zJ (x.d * val y.num)=M at *
 generalize zJ (val x.num * y.d)=P at *
 generalize qL x.den=ux at *
 generalize qL y.den=uy at *
 obtain⟨a,b,c⟩:=x
 obtain⟨a',b',c'⟩:=y
 simp only at *
 generalize (a != a')=nb at *
 cbv
 refine cA csg ?_
 cbv
 refine z9 hsg ?_
 cbv
 refine zO 18 (by cbv) ?_
 cbv
 refine dA cuy ?_
 cbv
 refine dA cn ?_
 cbv
 refine dA cux ?_
 cbv
 refine dA cm ?_
 cbv
 refine xG (by exact⟨xX hb,lR,lR,trivial⟩) cq rfl ?_
 cbv
 (refine rC ?_;cbv)
 exact okA
theorem zQ3 (s:Scp)(v:Int)(hs:Lsz (2^20) s.lems)(hv:-4611686018427387904≤v)(hv2:v<4611686018427387904)(hn:0≤s.q.g.n)(hn2:s.q.g.n≤256) :
  zB 186 [sv s,.int .i64 (fun _=>v)] (.tup [mlv (mR ((s.atMostM v).getD [])),.bool (fun _=>(s.atMostM v).isSome)]):=by
 refine sF Tryz.f186 ?_
 have c1:=s32 1 (by decide) (by decide)
 rw[show (((1:Int):Rat))=(1:Rat) by rfl] at c1
 have cb:=eI s (v - s.q.g.n) hs
 have hbs:=fun k h h0=>fS (s:=s) (unit:=v - s.q.g.n) (k:=k) h h0
 have hss:=hs.sz
 have hva:∀ k m,s.lems[k - 1]?=some m→xV s.lems k=m.v.q:=fun k m h=>by unfold xV;rw[h];rfl
 have h1:v<s.q.g.n→s.atMostM v=some [(⟨2,v,0,0⟩,1)]:=fun h=>by unfold Scp.atMostM;rw[if_pos h]
 have h2:¬ v<s.q.g.n→(s.best (v - s.q.g.n)).1=0∨(s.best (v - s.q.g.n)).2=0→s.atMostM v=none:=fun h h'=>by unfold Scp.atMostM;rw[if_neg h,if_pos h']
 have h3:¬ v<s.q.g.n→¬ ((s.best (v - s.q.g.n)).1=0∨(s.best (v - s.q.g.n)).2=0)→s.atMostM v=some (upM (v - s.q.g.n) (s.best (v - s.q.g.n)).1 (s.best (v - s.q.g.n)).2 (xV s.lems (s.best (v - s.q.g.n)).1) (xV s.lems (s.best (v - s.q.g.n)).2)):=fun h h'=>by unfold Scp.atMostM;rw[if_neg h,if_neg h']
 generalize s.atMostM v=o at *
 generalize s.best (v - s.q.g.n)=B at *
 obtain⟨b1,b2⟩:=B
 dsimp only at h2 h3 hbs cb
 have hll:=hs.len
 obtain⟨⟨⟨gn,us,os⟩,⟨lo,hi,rows⟩,⟨ts,c1',c2',c3'⟩⟩,path,L⟩:=s
 dsimp only at *
 obtain⟨res,hres⟩:∃ r,mR (o.getD [])=r:=⟨_,rfl⟩
 obtain⟨bb,hbb⟩:∃ b,o.isSome=b:=⟨_,rfl⟩
 rw[hres,hbb]
 have r1:v<gn→res=[⟨⟨2,v,0,0⟩,zC 1⟩]∧bb=true:=fun h=>by rw[←hres,←hbb,h1 h];exact⟨rfl,rfl⟩
 have r2:¬ v<gn→b1=0∨b2=0→res=[]∧bb=false:=fun h h'=>by rw[←hres,←hbb,h2 h h'];exact⟨rfl,rfl⟩
 have r3:¬ v<gn→¬ (b1=0∨b2=0)→∀ m1 m2,L[b1 - 1]?=some m1→L[b2 - 1]?=some m2→res=mR (upM (v - gn) b1 b2 m1.v.q m2.v.q)∧bb=true:=fun h h' m1 m2 g1 g2=>by
  rw[←hres,←hbb,h3 h h',hva b1 m1 g1,hva b2 m2 g2];exact⟨rfl,rfl⟩
 clear h1 h2 h3 hres hbb hva hs
 obtain⟨O1,hO1⟩:∃ O,zC 1=O:=⟨_,rfl⟩
 rw[hO1] at c1 r1
 cbv
 refine cA c1 ?_
 cbv
 refine zF (fun e=>?_) (fun e=>?_)
 ·obtain⟨q1,q2⟩:=r1 e
  subst q1 q2
  cbv
  (refine rC ?_;cbv)
  exact⟨zQ rfl,z7 rfl,trivial⟩
 cbv
 refine⟨zH om om,?_⟩
 cbv
 refine cA cb ?_
 cbv
 refine zR (fun e1=>?_) (fun e1=>?_)
 ·obtain⟨q1,q2⟩:=r2 e (.inl om)
  subst q1 q2
  cbv
  (refine rC ?_;cbv)
  exact okA
 cbv
 refine zF (fun e2=>?_) (fun e2=>?_)
 ·obtain⟨q1,q2⟩:=r2 e (.inr om)
  subst q1 q2
  cbv
  (refine rC ?_;cbv)
  exact okA
 have e1':b1≠0:=by (try dsimp only [zG] at *);omega
 have e2':b2≠0:=by (try dsimp only [zG] at *);omega
 obtain⟨m1,g1,_⟩:=hbs b1 (.inl rfl) e1'
 obtain⟨m2,g2,_⟩:=hbs b2 (.inr rfl) e2'
 have r3':=r3 e (by omega) m1 m2 g1 g2
 have z1:=hss m1 (List.mem_of_getElem? g1)
 have z2:=hss m2 (List.mem_of_getElem? g2)
 have l1:=(List.getElem?_eq_some_iff.1 g1).1
 have l2:=(List.getElem?_eq_some_iff.1 g2).1
 have i1:∀ {K:List PV→Prop},K (lc m1)→IdxOk 6 (fun _=>enc lc L) (fun _=>(b1:Int) - 1) K:=fun hK=>xC g1 (by omega) vD uO hK
 have i2:∀ {K:List PV→Prop},K (lc m2)→IdxOk 6 (fun _=>enc lc L) (fun _=>(b2:Int) - 1) K:=fun hK=>xC g2 (by omega) vD uO hK
 have csl:=s35 m1.v (by have:=z1.n;omega)
 have csu:=s35 m2.v (by have:=z2.n;omega)
 have cdf:=s93 m2.v m1.v (z2.mono (by decide)) (z1.mono (by decide))
 have fu:=z2.fits (by decide)
 have fd:=qE fu (z1.fits (by decide))
 have cdv:m2.v.q - m1.v.q≠0→zB 217 [rv O1,rv (zC (m2.v.q - m1.v.q))] (.tup [rv (zC (1 / (m2.v.q - m1.v.q))),.int .i64 (fun _=>(0:Int))]):=fun h=>by
  have:=s182 (zC 1) (zC (m2.v.q - m1.v.q)) ((zU fits_one).mono (by decide)) ((zU fd).mono (by decide)) (by rw[zY];exact h)
  rw[zY,zY,hO1] at this
  exact this
 have fq:Fits (2^22) (1 / (m2.v.q - m1.v.q)):=by rw[Rat.div_def];exact (xP fits_one (zEX fd)).mono (by decide)
 have cmu:=s77 (zC (1 / (m2.v.q - m1.v.q))) m2.v ((zU fq).mono (by decide)) (z2.mono (by decide))
 rw[zY] at cmu
 have hne:¬ yB m2.v.q≤0→¬ 0≤yB m1.v.q→m2.v.q - m1.v.q≠0:=fun h h'=>by
  have hu:0<m2.v.q:=by unfold yB at h;split at h <;> (try split at h) <;> grind
  have hl:m1.v.q<0:=by unfold yB at h';split at h' <;> (try split at h') <;> grind
  grind
 have ra:yB m2.v.q≤0→res=[⟨⟨10,v - gn,0,b2⟩,O1⟩]:=fun h=>by rw[r3'.1,←hO1];unfold upM;rw[if_pos h];rfl
 have rb:¬ yB m2.v.q≤0→0≤yB m1.v.q→res=[⟨⟨8,v - gn,b1,0⟩,O1⟩,⟨⟨12,v - gn,0,b2⟩,O1⟩]:=fun h h'=>by rw[r3'.1,←hO1];unfold upM;rw[if_neg h,if_pos h'];rfl
 have rcc:¬ yB m2.v.q≤0→¬ 0≤yB m1.v.q→res=[⟨⟨12,v - gn,0,b2⟩,zC (1 / (m2.v.q - m1.v.q) * m2.v.q)⟩,⟨⟨13,v - gn,b1,b2⟩,zC (1 / (m2.v.q - m1.v.q))⟩]:=fun h h'=>by rw[r3'.1];unfold upM;rw[if_neg h,if_neg h'];rfl
 obtain⟨_,q2⟩:=r3'
 subst q2
 have cdv':=fun h h'=>cdv (hne h h')
 clear cdv hne fq fd fu z1 z2 r1 r2 r3 cb hbs c1
 generalize yB m2.v.q=su at *
 generalize yB m1.v.q=sl at *
 generalize zC (1 / (m2.v.q - m1.v.q) * m2.v.q)=M at *
 generalize zC (1 / (m2.v.q - m1.v.q))=Q at *
 generalize zC (m2.v.q - m1.v.q)=D at *
 cbv
 refine w5 17 [(16,10)] (by cbv) (by cbv) (by cbv) ?_
 cbv
 refine⟨zH om om,i1 ?_⟩
 cbv
 refine⟨zH om om,i2 ?_⟩
 cbv
 refine cA csu ?_
 cbv
 refine zF (fun e3=>?_) (fun e3=>?_)
 ·have q1:=ra e3
  subst q1
  cbv
  (refine rC ?_;cbv)
  exact⟨zQ rfl,z7 rfl,trivial⟩
 cbv
 refine cA csl ?_
 cbv
 refine zF (fun e4=>?_) (fun e4=>?_)
 ·have q1:=rb e3 e4
  subst q1
  cbv
  (refine rC ?_;cbv)
  exact⟨zQ rfl,z7 rfl,trivial⟩
 have q1:=rcc e3 e4
 have cd:=cdv' e3 e4
 subst q1
 cbv
 refine w5 10 [(9,12)] (by cbv) (by cbv) (by cbv) ?_
 cbv
 refine dA cdf ?_
 cbv
 refine dA cd ?_
 cbv
 refine zO 13 (by cbv) ?_
 cbv
 refine dA cmu ?_
 cbv
 (refine rC ?_;cbv)
 exact⟨zQ rfl,z7 rfl,trivial⟩
structure AbvOk (s:Scp) (f:F):Prop where
 cn:Cn f.ts
 fl:f.fl (2^20) (2^30)
 v:∀ t,t∈f.ts→-4611686018427387904≤t.1∧t.1<4611686018427387904
 pre:∀ i l,s.aboveL (f.ts.take i) []=some l→(∀ t,t∈l→Fits (2^28) t.2)∧l.length≤2^36
 most:∀ t,t∈f.ts→∀ more,s.atMostM t.1=some more→(∀ x,x∈more→Fits (2^20) x.2)∧more.length≤64
 sum:∀ l,s.aboveL f.ts []=some l→SumOk s (mR l)
theorem lS {s:Scp}{t:Int × Rat}{more:List (Row × Rat)}(ht:(if 0<yB t.2 then some (s.atLeastM t.1) else s.atMostM t.1)=some more):∀ {ts:List (Int × Rat)} {l l':List (Row × Rat)},s.aboveL ts l=some l'→s.aboveL (ts++[t]) l=some (kL l' more (gU t.2))
 | [],l,l',h=>by
  cases h
  rw[List.nil_append]
  unfold Scp.aboveL
  rw[ht];rfl
 | x::r,l,l',h=>by
  rw[List.cons_append]
  unfold Scp.aboveL at h ⊢
  cases hx:(if 0<yB x.2 then some (s.atLeastM x.1) else s.atMostM x.1) with
  | none=>rw[hx] at h;cases h
  | some g =>
   rw[hx] at h
   exact lS ht h
theorem zIZ (s:Scp)(v:Int):(∀ x,x∈s.atLeastM v→Fits (2^20) x.2)∧(s.atLeastM v).length≤64:=by
 unfold Scp.atLeastM
 split <;> refine⟨fun x hx=>?_,by simp⟩ <;> (obtain rfl:=List.mem_singleton.1 hx;exact fits_one.mono (by decide))
theorem zHH (s:Scp)(f:F)(hs:s.sz (2^20))(hn:0≤s.q.g.n)(hn2:s.q.g.n≤256)(hok:AbvOk s f) :
  zB 129 [sv s,fv f] (.tup [rv (zC (((s.above f).map Prod.fst).getD 0)),mlv (mR (((s.above f).map Prod.snd).getD [])),.bool (fun _=>(s.above f).isSome)]):=by
 refine sF Tryz.f129 ?_
 have cam:∀ t,t∈f.ts→zB 186 [sv s,.int .i64 (fun _=>t.1)] (.tup [mlv (mR ((s.atMostM t.1).getD [])),.bool (fun _=>(s.atMostM t.1).isSome)]):=fun t ht=>zQ3 s t.1 hs.lems (hok.v t ht).1 (hok.v t ht).2 hn hn2
 have cal:∀ t,t∈f.ts→zB 187 [sv s,.int .i64 (fun _=>t.1)] (mlv (mR (s.atLeastM t.1))):=fun t ht=>zQ4 s t.1 (hok.v t ht).1 (hok.v t ht).2 hn hn2
 have csg:∀ t,t∈f.ts→zB 33 [rv (zC t.2)] (.int .i64 (fun _=>yB t.2)):=fun t ht=>by
  have:=s35 (zC t.2) (Nat.lt_of_le_of_lt (zU (hok.fl.t t ht)).n (by decide))
  rw[zY] at this
  exact this
 have cmg:∀ t,t∈f.ts→∀ a b,(∀ t,t∈a→Fits (2^28) t.2)→a.length≤2^36→(∀ t,t∈b→Fits (2^20) t.2)→b.length≤64→zB 188 [mlv (mR a),mlv (mR b),.agg [.bool (fun _=>false),nat (zC t.2).num,nat (zC t.2).den]] (mlv (mR (kL a b (gU t.2)))):=fun t ht a b h1 h2 h3 h4=>by
  have:=zN2 a b ⟨false,(zC t.2).num,(zC t.2).den⟩ h1 h2 h3 h4 (by rw[tX];exact zU (rX (hok.fl.t t ht)))
  have e:(⟨false,(zC t.2).num,(zC t.2).den⟩:R).q=gU t.2:=by rw[tX,zY]
  rw[e] at this
  exact this
 have cfin:∀ l,s.aboveL f.ts []=some l→zB 18 [sv s,mlv (mR l)] (.tup [fv (s.sum (mR l)).2,.int .i64 (fun _=>(s.sum (mR l)).1)])∧zB 124 [fv f,fv (s.sum (mR l)).2] (fv (f.sub (s.sum (mR l)).2)):=fun l hl =>
  ⟨zN1 s (mR l) hs (hok.sum l hl),zFC hok.cn (Scp.sum_can s _) hok.fl (Scp.sum_fl' (hok.sum l hl)) (by decide) (by decide) (by decide) (by decide)⟩
 have hab:s.above f=(s.aboveL f.ts []).map fun l=>((f.sub (s.sum (mR l)).2).c,l):=rfl
 rw[hab]
 obtain⟨o,ho⟩:∃ o,s.aboveL f.ts []=o:=⟨_,rfl⟩
 rw[ho] at cfin ⊢
 obtain⟨AL,hAL⟩:∃ AL,s.aboveL=AL:=⟨_,rfl⟩
 have hTn:∀ l,AL [] l=some l:=fun l=>by rw[←hAL];rfl
 have hTc:∀ t r l,AL (t::r) l=match (if 0<yB t.2 then some (s.atLeastM t.1) else s.atMostM t.1) with
  | none=>none
  | some more=>AL r (kL l more (gU t.2)):=fun t r l=>by rw[←hAL];rfl
 obtain⟨PR,hPR⟩:∃ PR:Nat→List (Row × Rat)→Prop,∀ i l,PR i l=(s.aboveL (f.ts.take i) []=some l):=⟨_,fun _ _=>rfl⟩
 have hPRs:∀ i t more l,f.ts[i]?=some t→(if 0<yB t.2 then some (s.atLeastM t.1) else s.atMostM t.1)=some more→PR i l→PR (i+1) (kL l more (gU t.2)):=fun i t more l h1 h2 h3=>by
  rw[hPR] at h3 ⊢
  rw[iY h1]
  exact lS h2 h3
 have hPR0:PR 0 []:=by rw[hPR];rfl
 have hpre:∀ i l,PR i l→(∀ t,t∈l→Fits (2^28) t.2)∧l.length≤2^36:=fun i l h=>hok.pre i l (by rw[←hPR];exact h)
 have hmost:=hok.most
 rw[hAL] at ho
 have hfl:f.ts.length<2^38:=by have:=hok.fl.len;omega
 obtain⟨V,hV⟩:∃ V,fA f=V:=⟨_,rfl⟩
 have hVt:∀ (i:Nat) t,f.ts[i]?=some t→V.ts[i]?=some (t.1,zC t.2):=fun i t h=>by
  rw[←hV]
  show (tR f.ts)[i]?=_
  simp [tR,List.getElem?_map,h]
 have hVl:V.ts.length=f.ts.length:=by rw[←hV];exact wF _
 have hfv:fv f=av V:=by rw[←hV]
 rw[hfv] at cfin ⊢
 obtain⟨W,hW⟩:∃ W,zC (((o.map fun l=>((f.sub (s.sum (mR l)).2).c,l)).map Prod.fst).getD 0)=W:=⟨_,rfl⟩
 obtain⟨RL,hRL⟩:∃ W,mR (((o.map fun l=>((f.sub (s.sum (mR l)).2).c,l)).map Prod.snd).getD [])=W:=⟨_,rfl⟩
 obtain⟨bb,hbb⟩:∃ W,(o.map fun l=>((f.sub (s.sum (mR l)).2).c,l)).isSome=W:=⟨_,rfl⟩
 rw[hW,hRL,hbb]
 have gN:o=none→W=R0∧RL=[]∧bb=false:=fun h=>by rw[h] at hW hRL hbb;exact⟨hW.symm.trans v5,hRL.symm,hbb.symm⟩
 have gS:∀ l,o=some l→W=zC (f.sub (s.sum (mR l)).2).c∧RL=mR l∧bb=true:=fun l h=>by rw[h] at hW hRL hbb;exact⟨hW.symm,hRL.symm,hbb.symm⟩
 clear hW hRL hbb hab hAL hPR hok hV hfv
 obtain⟨w1,w2,w3⟩:=W
 have gN':o=none→w1=false∧w2=[]∧w3=[]∧RL=[]∧bb=false:=fun h=>by
  obtain⟨h1,h2,h3⟩:=gN h
  have h1':=R.mk.inj h1
  exact⟨h1'.1,h1'.2.1,h1'.2.2,h2,h3⟩
 clear gN
 cbv
 refine z4 (σ:=Nat × List (Row × Rat)) (fun st=>⟨[(2,.ptr 2 0),(3,.ptr 3 0),(4,.ptr 4 0),(7,mlv (mR st.2)),(8,.int .i64 (fun _=>(st.1:Int)))],[(2,.box (sc s)),(3,.box [tsv V.ts,.bool (fun _=>V.c.neg),nat V.c.num,nat V.c.den]),(4,.box [.ff,.nil,.nil])]⟩)
  (fun st=>st.1≤f.ts.length∧AL (f.ts.drop st.1) st.2=o∧PR st.1 st.2) (fun st=>f.ts.length - st.1)
  (0,[]) ⟨Nat.zero_le _,ho,hPR0⟩ (wkZ) ?_
 intro st hst
 obtain⟨i,acc⟩:=st
 obtain⟨h1,h2,h4⟩:=hst
 dsimp only at h1 h2 h4
 clear ho hPR0
 have h3:=hpre i acc h4
 cbv
 refine zF (fun h5=>?_) (fun h5=>?_)
 ·rw[zA,hVl] at h5
  have hlt:i<f.ts.length:=by (try dsimp only [zG] at *);omega
  obtain⟨t,ht⟩:=zS hlt
  have hmem:=List.mem_of_getElem? ht
  have hx:=hVt i t ht
  have cam':=cam t hmem
  have cal':=cal t hmem
  have csg':=csg t hmem
  have hmo:=hmost t hmem
  have cmg':=cmg t hmem
  obtain⟨X,hX⟩:∃ X,zC t.2=X:=⟨_,rfl⟩
  simp only[hX] at cmg'
  rw[hX] at hx csg'
  clear cam cal csg cmg hmost hVt cfin gS
  generalize hsg:yB t.2=sg at *
  cbv
  refine yF hx y4 y6 ?_
  cbv
  refine cA cam' ?_
  cbv
  refine cA csg' ?_
  cbv
  refine zF (fun e1=>?_) (fun e1=>?_)
  ·have HM:(if 0<yB t.2 then some (s.atLeastM t.1) else s.atMostM t.1)=some (s.atLeastM t.1):=by rw[hsg,if_pos e1]
   have hls:=zIZ s t.1
   have hPn:=hPRs i t _ acc ht HM h4
   have hn':AL (f.ts.drop i) acc=AL (f.ts.drop (i+1)) (kL acc (s.atLeastM t.1) (gU t.2)):=by rw[yE ht,hTc,HM]
   rw[hn'] at h2
   have cm:=cmg' acc _ h3.1 h3.2 hls.1 hls.2
   clear HM hTc hPRs hn' hls
   generalize s.atLeastM t.1=more at *
   generalize kL acc more (gU t.2)=acc' at *
   cbv
   refine cA cal' ?_
   cbv
   refine cA cm ?_
   cbv
   exact⟨zH om om,(i+1,acc'),⟨om,h2,hPn⟩,om,wkZ⟩
  ·have HM0:(if 0<yB t.2 then some (s.atLeastM t.1) else s.atMostM t.1)=s.atMostM t.1:=by rw[hsg,if_neg e1]
   cases hoo:s.atMostM t.1 with
   | none =>
    have hz:o=none:=by rw[←h2,yE ht,hTc,HM0,hoo]
    obtain⟨q1,q2,q3,q4,q5⟩:=gN' hz
    subst q1 q2 q3 q4 q5
    cbv
    refine zV (fun e=>absurd e (by simp)) (fun _=>?_)
    cbv
    (refine rC ?_;cbv)
    exact okA
   | some more =>
    have hls:=hmo more hoo
    have hPn:=hPRs i t more acc ht (HM0.trans hoo) h4
    have hn':AL (f.ts.drop i) acc=AL (f.ts.drop (i+1)) (kL acc more (gU t.2)):=by rw[yE ht,hTc,HM0,hoo]
    rw[hn'] at h2
    have cm:=cmg' acc more h3.1 h3.2 hls.1 hls.2
    have hg:(s.atMostM t.1).getD []=more:=by rw[hoo];rfl
    clear HM0 hTc hPRs hn' hls
    generalize kL acc more (gU t.2)=acc' at *
    cbv
    refine zV (fun _=>?_) (fun e=>absurd e (by simp))
    cbv
    refine yQ rfl (by exact⟨lR,zQ rfl,okA,trivial⟩) cm rfl ?_
    cbv
    exact⟨zH om om,(i+1,acc'),⟨om,h2,hPn⟩,om,wkZ⟩
 ·have hi:i=f.ts.length:=by rw[zA,hVl] at h5;(try dsimp only [zG] at *);omega
  rw[hi,List.drop_length,hTn] at h2
  obtain⟨c1,c2⟩:=cfin acc h2.symm
  obtain⟨q1,q2,q3⟩:=gS acc h2.symm
  subst q2 q3
  (try dsimp only [fv] at c1 c2)
  have e1:fA (f.sub (s.sum (mR acc)).2)=⟨tR (f.sub (s.sum (mR acc)).2).ts,zC (f.sub (s.sum (mR acc)).2).c⟩:=rfl
  rw[e1,←q1] at c2
  generalize tR (f.sub (s.sum (mR acc)).2).ts=TT at *
  generalize fA (s.sum (mR acc)).2=SS at *
  generalize (s.sum (mR acc)).1=code at *
  clear q1 e1 gS gN' cfin
  cbv
  refine cA c1 ?_
  cbv
  refine cA c2 ?_
  cbv
  (refine rC ?_;cbv)
  exact okA
theorem Wt.take {s:Scp}:∀ {l:List (Row × Rat)} {N:Nat},Wt s l N→∀ i,∃ M,M≤N∧Wt s (l.take i) M
 | _,_,.nil,i=>⟨0,Nat.le_refl _,by rw[List.take_nil];exact .nil⟩
 | _,_,.cons hk hg h,0=>⟨0,Nat.zero_le _,by rw[List.take_zero];exact .nil⟩
 | _,_,.cons (k:=k) (g:=g) (N:=N) hk hg h,i+1=>by
  obtain⟨M,h1,h2⟩:=h.take i
  exact⟨k+g+5+M,by omega,by rw[List.take_succ_cons];exact .cons hk hg h2⟩
theorem Wt.fmem {s:Scp}:∀ {l:List (Row × Rat)} {N:Nat},Wt s l N→∀ t,t∈l→∀ f,s.fm t.1=some f→f.fl N 3000
 | _,_,.nil,t,ht=>absurd ht (by simp)
 | _,_,.cons hk hg h,t,ht=>by
  rcases List.mem_cons.1 ht with rfl | ht
  ·exact fun f hf=>(hg f hf).mono (by omega) (Nat.le_refl _)
  ·exact fun f hf=>(h.fmem t ht f hf).mono (by omega) (Nat.le_refl _)
theorem Wt.sumOk {s:Scp}{l:List (Row × Rat)}{N:Nat}(h:Wt s l N)(hN:N<2^26)(hf:∀ t,t∈l→∀ f,s.fm t.1=some f→f.fl (2^24) 3000)(hc:∀ t,t∈l→Fits (2^20) t.2)(hl:l.length≤100000):SumOk s (mR l) where
 fm m hm f hf':=by
  obtain⟨t,ht,rfl⟩:=List.mem_map.1 hm
  exact (hf t ht f hf').mono (Nat.le_refl _) (by decide)
 c:=⟨by rw[dJ];omega,fun m hm=>by
  obtain⟨t,ht,rfl⟩:=List.mem_map.1 hm
  exact zU (hc t ht)⟩
 pre i acc ha:=by
  obtain⟨M,h1,h2⟩:=h.take i
  rw[zOH] at ha
  have:=h2.sumL zero_fl ha
  have hl2:(l.take i).length≤l.length:=by rw[List.length_take];omega
  exact this.mono (by omega) (by omega)
theorem Wt.sumOk' {s:Scp}{l:List (Row × Rat)}{N:Nat}(h:Wt s l N)(hN:N≤2^20)(hl:l.length≤100000):SumOk s (mR l) :=
 h.sumOk (Nat.lt_of_le_of_lt hN (by decide)) (fun t ht f hf=>(h.fmem t ht f hf).mono (Nat.le_trans hN (by decide)) (Nat.le_refl _)) (fun t ht=>(h.mem t ht).mono hN) hl
theorem zFA {s:Scp}{x:FQry}(hq:s.q=x.q)(hx:x.small)(hL:LB KK s.lems){f:F}{j:Nat}(hj:j≤3)(hf:f.fl 46 7)(hw:f.wf ((x.g.n+j:Nat):Int)):AbvOk s f:=by
 have ok:=zP0 hx.g.n1 hx.g.n2 hj
 have kl:=zGA j
 have hn:=hx.g.n2
 have hv:∀ t,t∈f.ts→((0:Nat):Int)≤t.1∧t.1<((x.g.n+j:Nat):Int):=fun t ht=>by have:=hw.v t ht;omega
 have key:∀ i l,s.aboveL (f.ts.take i) []=some l→∃ M,M≤2^20∧Wt s l M∧l.length≤14:=fun i l h=>by
  obtain⟨M,h1,h2⟩:=n7 hq hx zDU hL (hi:=x.g.n+j) (lo:=0) (hw.cn.take i) (fun t ht=>hv t (List.mem_of_mem_take ht)) (fun t ht=>hf.t t (List.mem_of_mem_take ht)) (Nat.zero_le _) .nil h
  have h3:=tA h
  have h4:=hf.len
  have h5:(f.ts.take i).length≤f.ts.length:=by rw[List.length_take];omega
  have h6:r8 KK x.g.n 0=0:=rfl
  simp only[List.length_nil] at h3
  refine⟨M,?_,h2,by omega⟩
  have:(679650:Nat)≤2^20:=by decide
  omega
 refine⟨hw.cn,hf.mono (by decide) (by decide),fun t ht=>?_,fun i l h=>?_,fun t ht more h=>?_,fun l h=>?_⟩
 ·have:=hv t ht
  omega
 ·obtain⟨M,h1,h2,h3⟩:=key i l h
  exact⟨fun t ht=>(h2.mem t ht).mono (Nat.le_trans h1 (by decide)),by omega⟩
 ·obtain⟨v,hv1⟩:∃ v:Nat,t.1=v:=⟨t.1.toNat,by have:=hv t ht;omega⟩
  rw[hv1] at h
  obtain⟨B,h1,h2⟩:=zHQ hq hx zDU hL v h
  have h3:=zEG h
  refine⟨fun u hu=>(h2.mem u hu).mono ?_,by omega⟩
  have hlt:v+1≤x.g.n+j:=by have:=hv t ht;omega
  have h4:=nW (K:=KK) (n:=x.g.n) hlt
  have h5:r8 KK x.g.n (v+1)=r8 KK x.g.n v+cst KK x.g.n v:=rfl
  have:(679650:Nat)≤2^20:=by decide
  omega
 ·have hfull:f.ts.take f.ts.length=f.ts:=List.take_length
  obtain⟨M,h1,h2,h3⟩:=key f.ts.length l (by rw[hfull];exact h)
  exact h2.sumOk' h1 (by omega)
theorem zMN {t:TypeId}{base x:Operand}{d:Option Nat}{ps ps':PS}{K:PS→Prop}(hw:Wk ps ps')(h:AppOk t base x d ps' K):AppOk t base x d ps K:=by
 obtain⟨p,a1,a2,a3,a4,a5,a6,a7,a8⟩:=h.h
 exact⟨p,a1,a2,a3,a4,a5,a6,.trans hw a7,a8⟩
theorem wQ {α:Type}(p:α→List PV)(l:List α):((enc p l).drop 0).take l.length=enc p l:=by rw[List.drop_zero,←zA p l,List.take_length]
theorem u5 {α:Type}(p:α→List PV)(l:List α):0+l.length≤(enc p l).length:=by rw[zA];omega
end Go.Proofs.YtgcpehdkdnkgeaaGreat
