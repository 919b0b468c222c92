/- A part of the proof: SpW, RuK, AlA, AlB, AlC, LxA. -/
import Derived.Test.YtgcpehdkdnkgeaaGreatV37
import Derived.Test.YtgcpehdkdnkgeaaGreatV32
import Derived.Test.YtgcpehdkdnkgeaaGreatV31
import Derived.Test.YtgcpehdkdnkgeaaGreatV25
import Derived.Test.YtgcpehdkdnkgeaaGreatV27
import Derived.Test.YtgcpehdkdnkgeaaGreatV36
import Derived.Test.YtgcpehdkdnkgeaaGreatV33
import Derived.Test.YtgcpehdkdnkgeaaGreatV26
import Derived.Test.YtgcpehdkdnkgeaaGreatV34
import Derived.Test.YtgcpehdkdnkgeaaGreatV30
set_option linter.all false
namespace Go.Proofs.YtgcpehdkdnkgeaaGreat
open Go
set_option maxRecDepth 100000
set_option maxHeartbeats 4000000
theorem zHC {s:Scp}{x:FQry}(hq:s.q=x.q)(hx:x.small)(hp:Dsz 43 s.path){r:Row}{f:F}(h:s.fIn r=some f):f.fl 200 3000:=by
 unfold Scp.fIn at h
 split at h
 ·split at h
  ·cases hy:s.q.r.lo[r.i.toNat]? with
   | none=>rw[hy] at h;cases h
   | some y =>
    rw[hy] at h
    cases h
    have hm:=List.mem_of_getElem? hy
    rw[hq] at hm
    obtain⟨b,hb,rfl⟩:=List.mem_map.1 hm
    dsimp only
    rw[z9]
    exact ((w7 r.i).sub (wH (hx.r.bf b hb).1)).mono (by omega) (by omega)
  ·split at h
   ·cases hy:s.q.r.hi[r.i.toNat]? with
    | none=>rw[hy] at h;cases h
    | some y =>
     rw[hy] at h
     cases h
     have hm:=List.mem_of_getElem? hy
     rw[hq] at hm
     obtain⟨b,hb,rfl⟩:=List.mem_map.1 hm
     dsimp only
     rw[z9]
     exact ((wH (hx.r.bf b hb).2).sub (w7 r.i)).mono (by omega) (by omega)
   ·split at h
    ·cases hy:s.q.r.rows[r.i.toNat]? with
     | none=>rw[hy] at h;cases h
     | some y =>
      rw[hy] at h
      cases h
      have hm:=List.mem_of_getElem? hy
      rw[hq] at hm
      obtain⟨b,hb,rfl⟩:=List.mem_map.1 hm
      dsimp only
      rw[uK]
      have:=hx.g.n2
      exact ((hx.r.rf b hb).add zero_fl).mono (by omega) (by omega)
    ·split at h
     ·split at h
      ·rename_i d hd
       have hz:=(hp.sz d (List.mem_of_getElem? hd)).fits (by decide)
       split at h
       ·split at h
        ·cases h
         exact ((w7 d.i).sub (wH hz)).mono (by omega) (by omega)
        ·split at h
         ·cases h
          exact (((w7 d.i).sub (wH hz)).scale xM).mono (by omega) (by omega)
         ·cases h
       ·cases h
      ·cases h
     ·cases h
 ·cases h
theorem zF8 {s:Scp}{x:FQry}(hq:s.q=x.q)(hx:x.small)(hp:Dsz 43 s.path)(hL:LB KK s.lems){r:Row}{f:F}(h:s.fm r=some f):f.fl 2718660 3000:=by
 by_cases h5:5≤r.k
 ·have h':=h
  unfold Scp.fm at h'
  split at h'
  ·cases h'
  rw[if_neg (by omega)] at h'
  unfold Scp.fUn at h'
  split at h'
  ·rename_i hi
   have hi':r.i=((r.i.toNat:Nat):Int):=by omega
   exact (zI1 hq hx o5 hL h5 hi' h).mono (by have:=zFT r.i.toNat;omega) (Nat.le_refl _)
  ·cases h'
 ·unfold Scp.fm at h
  split at h
  ·cases h
  rw[if_pos (by omega)] at h
  exact (zHC hq hx hp h).mono (by omega) (Nat.le_refl _)
theorem zDE {s:Scp}{g k:Nat}(hg:∀ r f,s.fm r=some f→f.fl g 3000):∀ {l:List Mult} {acc f:F} {a n:Nat},(∀ m,m∈l→Fits k m.c.q)→acc.fl a n→sumL s acc l=some f→f.fl (a+(g+k+5) * l.length) (n+3000 * l.length)
 | [],acc,f,a,n,_,ha,h=>by cases h;simpa using ha
 | m::r,acc,f,a,n,hm,ha,h=>by
  unfold sumL at h
  cases hx:s.fm m.row with
  | none=>rw[hx] at h;cases h
  | some f0 =>
   rw[hx] at h
   have:=zDE hg (fun u hu=>hm u (List.mem_cons_of_mem _ hu)) (ha.add ((hg _ _ hx).scale (hm m List.mem_cons_self))) h
   exact this.mono (by rw[List.length_cons,Nat.mul_succ];omega) (by rw[List.length_cons];omega)
theorem zEX (raw:List UInt8):(fdS raw).bounded.q=(fdY raw 0).1.q:=rfl
theorem oX (raw:List UInt8):Dsz 43 (fdS raw).bounded.path:=(zGB raw).path
instance:DecidableEq A:=fun a b=>if h:a.ts=b.ts∧a.c=b.c then isTrue (by obtain⟨x,y⟩:=a;obtain⟨x',y'⟩:=b;simp only at h;rw[h.1,h.2]) else isFalse (fun e=>h (by rw[e];exact⟨rfl,rfl⟩))
theorem zQJ (s:Scp)(j:Int)(hs:s.sz (2^20)):zE 84 [sv s,.int .i64 (fun _=>j)] (.tup [.bool (fun _=>s.onU j),.bool (fun _=>s.offU j)]):=by
 refine sF Tryz.f84 ?_
 have cb:=iY s j hs.lems
 have cd1:=bK s 1 j (hs.path.mono (by decide))
 have cd2:=bK s 2 j (hs.path.mono (by decide))
 have csg:∀ m,m∈s.lems→zE 33 [rv m.v] (.int .i64 (fun _=>yB m.v.q)):=fun m hm=>s35 m.v (by have:=(hs.lems.sz m hm).n;omega)
 have hlen:=hs.lems.len
 have hbb:∀ k:Nat,(k=(s.best j).1∨k=(s.best j).2)→k≠0→∃ m,s.lems[k - 1]?=some m∧k - 1<s.lems.length:=fun k hk h0=>by
  obtain⟨m,hm,_⟩:=bB hk h0
  exact⟨m,hm,(List.getElem?_eq_some_iff.1 hm).1⟩
 have hb1:=hbb _ (.inl rfl)
 have hb2:=hbb _ (.inr rfl)
 clear hbb
 have hv:∀ (k:Nat) m,s.lems[k - 1]?=some m→wK s.lems k=m.v.q:=fun k m h=>by unfold wK;rw[h];rfl
 have hon:s.onU j=(s.dcd 1 j || (decide (0<(s.best j).1) && decide (0≤yB (wK s.lems (s.best j).1)))):=rfl
 have hoff:s.offU j=(s.dcd 2 j || (decide (0<(s.best j).2) && decide (yB (wK s.lems (s.best j).2)≤0))):=rfl
 generalize s.onU j=on at *
 generalize s.offU j=off at *
 generalize s.dcd 1 j=d1 at *
 generalize s.dcd 2 j=d2 at *
 generalize (s.best j).1=b1 at *
 generalize (s.best j).2=b2 at *
 have o11:d1=true→on=true:=fun h=>by rw[hon,h];rfl
 have o12:d1=false→b1=0→on=false:=fun h g=>by rw[hon,h,g];rfl
 have o13:d1=false→∀ m,s.lems[b1 - 1]?=some m→0<b1→on=decide (0≤yB m.v.q):=fun h m hm g=>by rw[hon,h,hv b1 m hm,decide_eq_true g];rfl
 have o21:d2=true→off=true:=fun h=>by rw[hoff,h];rfl
 have o22:d2=false→b2=0→off=false:=fun h g=>by rw[hoff,h,g];rfl
 have o23:d2=false→∀ m,s.lems[b2 - 1]?=some m→0<b2→off=decide (yB m.v.q≤0):=fun h m hm g=>by rw[hoff,h,hv b2 m hm,decide_eq_true g];rfl
 clear hon hoff hv hs
 obtain⟨⟨⟨gn,us,os⟩,⟨lo,hi,rows⟩,⟨ts,c1,c2,c3⟩⟩,path,L⟩:=s
 dsimp only at csg hlen hb1 hb2 o13 o23
 cbv
 refine cA cb ?_
 cbv
 refine cA cd1 ?_
 cbv
 refine z4 (fun eA=>?_) (fun eA=>?_)
 ·have qA:=o11 eA
  cbv
  refine cA cd2 ?_
  cbv
  refine z4 (fun eB=>?_) (fun eB=>?_)
  ·have qB:=o21 eB
   cbv
   (refine rC ?_;cbv)
   exact⟨yL qA,yL qB,trivial⟩
  ·cbv
   refine zR (fun fB=>?_) (fun fB=>?_)
   ·have gB:b2≠0:=by (try dsimp only [zG] at *);omega
    obtain⟨mB,hmB,hlB⟩:=hb2 gB
    have qB:=o23 eB mB hmB (by omega)
    have csB:=csg mB (List.mem_of_getElem? hmB)
    have ixB:∀ {K:List PV→Prop},K (lc mB)→IdxOk 6 (fun _=>enc lc L) (fun _=>(b2:Int) - 1) K:=fun hK=>jW hmB (by omega) wT wQ hK
    generalize yB mB.v.q=sgB at *
    cbv
    refine⟨zD om om,ixB ?_⟩
    cbv
    refine cA csB ?_
    cbv
    (refine rC ?_;cbv)
    exact⟨yL qA,zV qB.symm,trivial⟩
   ·have qB:=o22 eB om
    cbv
    (refine rC ?_;cbv)
    exact⟨yL qA,zN qB,trivial⟩
 ·cbv
  refine zR (fun fA=>?_) (fun fA=>?_)
  ·have gA:b1≠0:=by (try dsimp only [zG] at *);omega
   obtain⟨mA,hmA,hlA⟩:=hb1 gA
   have qA:=o13 eA mA hmA (by omega)
   have csA:=csg mA (List.mem_of_getElem? hmA)
   have ixA:∀ {K:List PV→Prop},K (lc mA)→IdxOk 6 (fun _=>enc lc L) (fun _=>(b1:Int) - 1) K:=fun hK=>jW hmA (by omega) wT wQ hK
   generalize yB mA.v.q=sgA at *
   cbv
   refine⟨zD om om,ixA ?_⟩
   cbv
   refine cA csA ?_
   cbv
   refine cA cd2 ?_
   cbv
   refine z4 (fun eB=>?_) (fun eB=>?_)
   ·have qB:=o21 eB
    cbv
    (refine rC ?_;cbv)
    exact⟨zV qA.symm,yL qB,trivial⟩
   ·cbv
    refine zR (fun fB=>?_) (fun fB=>?_)
    ·have gB:b2≠0:=by (try dsimp only [zG] at *);omega
     obtain⟨mB,hmB,hlB⟩:=hb2 gB
     have qB:=o23 eB mB hmB (by omega)
     have csB:=csg mB (List.mem_of_getElem? hmB)
     have ixB:∀ {K:List PV→Prop},K (lc mB)→IdxOk 6 (fun _=>enc lc L) (fun _=>(b2:Int) - 1) K:=fun hK=>jW hmB (by omega) wT wQ hK
     generalize yB mB.v.q=sgB at *
     cbv
     refine⟨zD om om,ixB ?_⟩
     cbv
     refine cA csB ?_
     cbv
     (refine rC ?_;cbv)
     exact⟨zV qA.symm,zV qB.symm,trivial⟩
    ·have qB:=o22 eB om
     cbv
     (refine rC ?_;cbv)
     exact⟨zV qA.symm,zN qB,trivial⟩
  ·have qA:=o12 eA om
   cbv
   refine cA cd2 ?_
   cbv
   refine z4 (fun eB=>?_) (fun eB=>?_)
   ·have qB:=o21 eB
    cbv
    (refine rC ?_;cbv)
    exact⟨zN qA,yL qB,trivial⟩
   ·cbv
    refine zR (fun fB=>?_) (fun fB=>?_)
    ·have gB:b2≠0:=by (try dsimp only [zG] at *);omega
     obtain⟨mB,hmB,hlB⟩:=hb2 gB
     have qB:=o23 eB mB hmB (by omega)
     have csB:=csg mB (List.mem_of_getElem? hmB)
     have ixB:∀ {K:List PV→Prop},K (lc mB)→IdxOk 6 (fun _=>enc lc L) (fun _=>(b2:Int) - 1) K:=fun hK=>jW hmB (by omega) wT wQ hK
     generalize yB mB.v.q=sgB at *
     cbv
     refine⟨zD om om,ixB ?_⟩
     cbv
     refine cA csB ?_
     cbv
     (refine rC ?_;cbv)
     exact⟨zN qA,zV qB.symm,trivial⟩
    ·have qB:=o22 eB om
     cbv
     (refine rC ?_;cbv)
     exact⟨zN qA,zN qB,trivial⟩
abbrev rsv (l:List Row):PV:=.sl (fun _=>enc rwc l)
theorem zJS (a:Row):yT v4 (rwc a)=true:=rfl
theorem zNP (a:Row):(rwc a).length=4:=rfl
theorem gG:ty 63=.sli 4 32 [.int .i64 (fun _=>0),.int .i64 (fun _=>0),.int .i64 (fun _=>0),.int .i64 (fun _=>0)]:=by cbv
structure AllSeq (s:Scp) (A B C D:Nat→List Row):Prop where
 a0:A 0=[]
 a1:∀ i:Nat,A (i+1)=A i++[⟨1,i,0,0⟩,⟨2,i,0,0⟩]
 b0:B 0=A s.q.g.n.toNat
 b1:∀ i:Nat,B (i+1)=B i++[⟨3,i,0,0⟩]
 c0:C 0=B s.q.r.rows.length
 c1:∀ i:Nat,C (i+1)=C i++(if (s.fm ⟨4,(i:Int),0,0⟩).isSome=true then [⟨4,i,0,0⟩] else [])
 d0:D 0=C s.path.length
 d1:∀ j:Nat,D (j+1)=D j++s.rowsU j
 e:s.all=D s.q.g.us.length
 la:∀ i,(A i).length≤2 * i
 lb:∀ i,(B i).length≤2 * s.q.g.n.toNat+i
 lc:∀ i,(C i).length≤2 * s.q.g.n.toNat+s.q.r.rows.length+i
 ld:∀ i,(D i).length≤2 * s.q.g.n.toNat+s.q.r.rows.length+s.path.length+12 * i
theorem zAJ (s:Scp)(j:Int):(s.rowsU j).length≤12:=by
 unfold Scp.rowsU Scp.rowsOn Scp.rowsOff Scp.rowsOpen
 simp only[List.length_append]
 repeat' split
 all_goals simp
theorem zOR {s:Scp}(hv:s.q.valid=true):∃ A B C D,AllSeq s A B C D:=by
 refine⟨fun i=>(List.range i).flatMap fun i:Nat=>[(⟨1,(i:Int),0,0⟩:Row),⟨2,(i:Int),0,0⟩],?_⟩
 generalize hA:(fun i=>(List.range i).flatMap fun i:Nat=>[(⟨1,(i:Int),0,0⟩:Row),⟨2,(i:Int),0,0⟩])=A
 refine⟨fun k=>A s.q.g.n.toNat++(List.range k).map fun i:Nat=>(⟨3,(i:Int),0,0⟩:Row),?_⟩
 generalize hB:(fun k=>A s.q.g.n.toNat++(List.range k).map fun i:Nat=>(⟨3,(i:Int),0,0⟩:Row))=B
 refine⟨fun k=>B s.q.r.rows.length++((List.range k).filter fun i:Nat=>(s.fm ⟨4,(i:Int),0,0⟩).isSome).map fun i:Nat=>(⟨4,(i:Int),0,0⟩:Row),?_⟩
 generalize hC:(fun k=>B s.q.r.rows.length++((List.range k).filter fun i:Nat=>(s.fm ⟨4,(i:Int),0,0⟩).isSome).map fun i:Nat=>(⟨4,(i:Int),0,0⟩:Row))=C
 refine⟨fun k=>C s.path.length++(List.range k).flatMap fun j:Nat=>s.rowsU (j:Int),?_⟩
 have la:∀ i,(A i).length≤2 * i:=fun i=>by
  rw[←hA]
  induction i with
  | zero=>simp
  | succ i ih =>
   show ((List.range (i+1)).flatMap _).length≤_
   rw[List.range_succ,List.flatMap_append,List.length_append]
   have:((List.range i).flatMap fun i:Nat=>[(⟨1,(i:Int),0,0⟩:Row),⟨2,(i:Int),0,0⟩]).length≤2 * i:=ih
   simp only[List.flatMap_cons,List.flatMap_nil,List.length_append,List.length_cons,List.length_nil]
   omega
 have lb:∀ i,(B i).length≤2 * s.q.g.n.toNat+i:=fun i=>by
  rw[←hB]
  have:=la s.q.g.n.toNat
  simp
  omega
 have lc:∀ i,(C i).length≤2 * s.q.g.n.toNat+s.q.r.rows.length+i:=fun i=>by
  rw[←hC]
  have h1:=lb s.q.r.rows.length
  have h2:=List.length_filter_le (fun i:Nat=>(s.fm ⟨4,(i:Int),0,0⟩).isSome) (List.range i)
  rw[List.length_range] at h2
  simp only[List.length_append,List.length_map]
  omega
 refine⟨by rw[←hA];rfl,fun i=>by rw[←hA];simp [List.range_succ,List.flatMap_append],by rw[←hB];simp,fun i=>by rw[←hB];simp [List.range_succ],by rw[←hC];simp,fun i=>by
   rw[←hC]
   show B _++_=_
   rw[List.range_succ,List.filter_append,List.map_append,←List.append_assoc]
   congr 1
   by_cases h:(s.fm ⟨4,(i:Int),0,0⟩).isSome=true
   ·rw[if_pos h];simp [h]
   ·rw[if_neg h];simp [h],by simp,fun j=>by simp [List.range_succ,List.flatMap_append],?_,la,lb,lc,fun i=>?_⟩
 ·unfold Scp.all
  rw[if_neg (by rw[hv];decide),←hC,←hB,←hA]
 ·have h1:=lc s.path.length
  show (C _++_).length≤_
  rw[List.length_append]
  have:((List.range i).flatMap fun j:Nat=>s.rowsU (j:Int)).length≤12 * i:=by
   induction i with
   | zero=>simp
   | succ i ih =>
    rw[List.range_succ,List.flatMap_append,List.length_append]
    have:=zAJ s (i:Int)
    simp only[List.flatMap_cons,List.flatMap_nil,List.append_nil]
    omega
  omega
theorem zNM (s:Scp)(hs:s.sz (2^20))(hn:s.q.g.n≤1000000)(hr:s.q.r.rows.length≤1000000)(hp:s.path.length≤1000000)(hu:s.q.g.us.length≤1000000):zE 26 [sv s] (rsv s.all):=by
 refine sF Tryz.f26 ?_
 have cv:=zFL s.q (hs.q.mono (by decide))
 have cf:=fun i:Nat=>zDM s ⟨4,i,0,0⟩ hs
 have cb:=fun j:Nat=>iY s j hs.lems
 have cph:=fun j:Nat=>zQJ s j hs
 have cd1:=fun j:Nat=>bK s 1 j (hs.path.mono (by decide))
 have cd2:=fun j:Nat=>bK s 2 j (hs.path.mono (by decide))
 cases hv:s.q.valid with
 | false =>
  have hall:s.all=[]:=by unfold Scp.all;rw[if_pos hv]
  rw[hall]
  rw[hv] at cv
  obtain⟨⟨⟨gn,us,os⟩,⟨lo,hi,rows⟩,⟨ts,c1,c2,c3⟩⟩,path,L⟩:=s
  cbv
  refine cA cv ?_
  cbv
  refine zRM rfl ?_
  cbv
  (refine rC ?_;cbv)
  exact xC rfl
 | true =>
  obtain⟨A,B,C,D,Q⟩:=zOR hv
  rw[hv] at cv
  have fa1:=Q.a1
  have fb1:=Q.b1
  have fc1:=Q.c1
  have fd1:=Q.d1
  have la:=Q.la
  have lb:=Q.lb
  have lc':=Q.lc
  have ld:=Q.ld
  have hN:s.q.g.n≤0∨s.q.g.n=(s.q.g.n.toNat:Int):=by omega
  rw[Q.e]
  have a0:=Q.a0
  have b0:=Q.b0
  have c0:=Q.c0
  have d0:=Q.d0
  have un:∀ j:Nat,s.rowsU j=(if s.onU j=true then s.rowsOn j else [])++(if s.offU j=true then s.rowsOff j else [])++(if s.onU j=true∨s.offU j=true then [] else s.rowsOpen j):=fun j=>rfl
  have ro1:∀ j:Nat,s.dcd 1 j=true→s.rowsOn j=[⟨6,j,0,0⟩,⟨7,j,0,0⟩,⟨8,j,0,0⟩]:=fun j h=>by unfold Scp.rowsOn;rw[if_pos h]
  have ro2:∀ j:Nat,s.dcd 1 j=false→s.rowsOn j=[⟨6,j,0,0⟩,⟨7,j,((s.best j).1:Int),0⟩,⟨8,j,((s.best j).1:Int),0⟩]:=fun j h=>by unfold Scp.rowsOn;rw[if_neg (by rw[h];decide)]
  have rf1:∀ j:Nat,s.dcd 2 j=true→s.rowsOff j=[⟨5,j,0,0⟩,⟨9,j,0,0⟩,⟨10,j,0,0⟩]:=fun j h=>by unfold Scp.rowsOff;rw[if_pos h]
  have rf2:∀ j:Nat,s.dcd 2 j=false→s.rowsOff j=[⟨5,j,0,0⟩,⟨9,j,0,((s.best j).2:Int)⟩,⟨10,j,0,((s.best j).2:Int)⟩]:=fun j h=>by unfold Scp.rowsOff;rw[if_neg (by rw[h];decide)]
  have rop:∀ j:Nat,s.rowsOpen j=[⟨5,j,0,0⟩,⟨6,j,0,0⟩]++(if 0<(s.best j).1 then [⟨11,j,((s.best j).1:Int),0⟩] else [])++(if 0<(s.best j).2 then [⟨12,j,0,((s.best j).2:Int)⟩] else [])++(if 0<(s.best j).1∧0<(s.best j).2 then [⟨13,j,((s.best j).1:Int),((s.best j).2:Int)⟩] else []):=fun j=>rfl
  have bl:∀ j:Nat,(s.best j).1<2^40∧(s.best j).2<2^40:=fun j=>by
   have:=hs.lems.len
   constructor
   ·rcases Nat.eq_zero_or_pos (s.best j).1 with h | h
    ·omega
    ·obtain⟨m,hm,_⟩:=bB (s:=s) (unit:=j) (.inl rfl) (by omega)
     have:=(List.getElem?_eq_some_iff.1 hm).1
     omega
   ·rcases Nat.eq_zero_or_pos (s.best j).2 with h | h
    ·omega
    ·obtain⟨m,hm,_⟩:=bB (s:=s) (unit:=j) (.inr rfl) (by omega)
     have:=(List.getElem?_eq_some_iff.1 hm).1
     omega
  have fms:∀ i:Nat,∃ (V:Go.Proofs.YtgcpehdkdnkgeaaGreat.A) (W:Bool),(s.fm ⟨4,(i:Int),0,0⟩).isSome=W∧zE 71 [sv s,rwv ⟨4,i,0,0⟩] (.tup [av V,.bool (fun _=>W)]):=fun i=>⟨_,_,rfl,cf i⟩
  have bsts:∀ j:Nat,∃ (x1 x2:Nat) (on off d1 d2:Bool) (ron rof:List Row),zE 83 [sv s,.int .i64 (fun _=>(j:Int))] (.tup [.int .i64 (fun _=>(x1:Int)),.int .i64 (fun _=>(x2:Int))])∧zE 84 [sv s,.int .i64 (fun _=>(j:Int))] (.tup [.bool (fun _=>on),.bool (fun _=>off)]) ∧
    zE 85 [sv s,.int .i64 (fun _=>1),.int .i64 (fun _=>(j:Int))] (.bool (fun _=>d1))∧zE 85 [sv s,.int .i64 (fun _=>2),.int .i64 (fun _=>(j:Int))] (.bool (fun _=>d2))∧x1<2^40∧x2<2^40 ∧
    D (j+1)=D j++((if on=true then ron else [])++(if off=true then rof else [])++(if on=true∨off=true then [] else [⟨5,j,0,0⟩,⟨6,j,0,0⟩]++(if 0<x1 then [⟨11,j,(x1:Int),0⟩] else [])++(if 0<x2 then [⟨12,j,0,(x2:Int)⟩] else [])++(if 0<x1∧0<x2 then [⟨13,j,(x1:Int),(x2:Int)⟩] else []))) ∧
    (d1=true→ron=[⟨6,j,0,0⟩,⟨7,j,0,0⟩,⟨8,j,0,0⟩])∧(d1=false→ron=[⟨6,j,0,0⟩,⟨7,j,(x1:Int),0⟩,⟨8,j,(x1:Int),0⟩])∧(d2=true→rof=[⟨5,j,0,0⟩,⟨9,j,0,0⟩,⟨10,j,0,0⟩])∧(d2=false→rof=[⟨5,j,0,0⟩,⟨9,j,0,(x2:Int)⟩,⟨10,j,0,(x2:Int)⟩]):=fun j =>
   ⟨_,_,_,_,_,_,_,_,cb j,cph j,cd1 j,cd2 j,(bl j).1,(bl j).2,by rw[fd1 j,un j,rop j],ro1 j,ro2 j,rf1 j,rf2 j⟩
  clear ro1 ro2 rf1 rf2 rop bl un cb cph cd1 cd2 fd1 cf Q hs hv
  generalize hNn:s.q.g.n.toNat=N at *
  have fms':∀ i:Nat,∃ (V:Go.Proofs.YtgcpehdkdnkgeaaGreat.A) (W:Bool),zE 71 [sv s,rwv ⟨4,i,0,0⟩] (.tup [av V,.bool (fun _=>W)])∧C (i+1)=C i++(if W=true then [⟨4,i,0,0⟩] else []):=fun i=>by
   obtain⟨V,W,h1,h2⟩:=fms i
   exact⟨V,W,h2,by rw[←h1];exact fc1 i⟩
  clear fms fc1
  obtain⟨⟨⟨gn,us,os⟩,⟨lo,hi,rows⟩,⟨ts,c1,c2,c3⟩⟩,path,L⟩:=s
  dsimp only at hn hr hp hu hN hNn lb lc' ld b0 c0 d0
  have hN1:N≤1000000:=by omega
  have lA:∀ i,i≤N→(A i).length≤100000000:=fun i h=>by have:=la i;omega
  have lB:∀ i,i≤rows.length→(B i).length≤100000000:=fun i h=>by have:=lb i;omega
  have lC:∀ i,i≤path.length→(C i).length≤100000000:=fun i h=>by have:=lc' i;omega
  have lD:∀ i,i≤us.length→(D i).length≤100000000:=fun i h=>by have:=ld i;omega
  clear la lb lc' ld
  cbv
  refine cA cv ?_
  cbv
  refine zC5 rfl ?_
  cbv
  refine zY (σ:=Nat) (fun i=>⟨[(1,.ptr 1 0),(3,.osl 3 4 (fun _=>0) (fun _=>(A i).length)),(4,.int .i64 (fun _=>(i:Int)))],[(1,.box [.int .i64 (fun _=>gn),alv us,alv os,rlv lo,rlv hi,alv rows,tsv ts,.bool (fun _=>c1),nat c2,nat c3,dlv path,llv L]),(3,.arr 4 (fun _=>enc rwc (A i)))]⟩)
   (fun i=>i≤N) (fun i=>N - i) 0 (Nat.zero_le _)
   (.trans (wkZ (ps':=⟨[(1,.ptr 1 0),(3,.nil),(4,.int .i64 (fun _=>((0:Nat):Int)))],[(1,.box [.int .i64 (fun _=>gn),alv us,alv os,rlv lo,rlv hi,alv rows,tsv ts,.bool (fun _=>c1),nat c2,nat c3,dlv path,llv L])]⟩)) (.trans (.adoptT (ps:=⟨[(1,.ptr 1 0),(3,.nil),(4,.int .i64 (fun _=>((0:Nat):Int)))],[(1,.box [.int .i64 (fun _=>gn),alv us,alv os,rlv lo,rlv hi,alv rows,tsv ts,.bool (fun _=>c1),nat c2,nat c3,dlv path,llv L])]⟩) 3 4 3 rfl rfl) (wkY (by cbv;repeat' first | exact trivial | exact lR | exact zC om | exact z0 rfl (by first | rfl | (rw[a0];done) | (simp [zQ,zA];done) | (rw[a0];simp [zQ,zA];done)) | exact zF (by first | rfl | (rw[a0];done) | (rw[a0];rfl) | (rw[←yH];rfl) | (rw[a0,←yH];rfl)) | apply And.intro)))) ?_
  intro i hi'
  have l1:=lA i hi'
  cbv
  refine zH (fun h=>?_) (fun h=>?_)
  ·have hlt:i<N:=by (try dsimp only [zG] at *);omega
   have f:=fa1 i
   clear fms' bsts lA lB lC lD fa1 fb1
   generalize A i=X at *
   cbv
   refine aO gG ?_
   cbv
   exact⟨zD om om,i+1,(by show i+1≤N;omega),(by show N - (i+1)<N - i;omega),wkY (by cbv;repeat' first | exact trivial | exact lR | exact zC om | exact z0 rfl (by first | rfl | (rw[f];done) | (simp [zQ,zA];done) | (rw[f];simp [zQ,zA];done)) | exact zF (by first | rfl | (rw[f];done) | (rw[f];rfl) | (rw[←yH];rfl) | (rw[f,←yH];rfl)) | apply And.intro)⟩
  have hN':i=N:=by (try dsimp only [zG] at *);omega
  subst hN'
  clear l1 lA hi' h
  cbv
  refine zY (σ:=Nat) (fun i=>⟨[(1,.ptr 1 0),(3,.osl 3 4 (fun _=>0) (fun _=>(B i).length)),(5,.int .i64 (fun _=>(i:Int)))],[(1,.box [.int .i64 (fun _=>gn),alv us,alv os,rlv lo,rlv hi,alv rows,tsv ts,.bool (fun _=>c1),nat c2,nat c3,dlv path,llv L]),(3,.arr 4 (fun _=>enc rwc (B i)))]⟩)
   (fun i=>i≤rows.length) (fun i=>rows.length - i) 0 (Nat.zero_le _) (wkY (by cbv;repeat' first | exact trivial | exact lR | exact zC om | exact z0 rfl (by first | rfl | (rw[b0];done) | (simp [zQ,zA];done) | (rw[b0];simp [zQ,zA];done)) | exact zF (by first | rfl | (rw[b0];done) | (rw[b0];rfl) | (rw[←yH];rfl) | (rw[b0,←yH];rfl)) | apply And.intro)) ?_
  intro i hi'
  have l1:=lB i hi'
  cbv
  refine zH (fun h=>?_) (fun h=>?_)
  ·have hlt:i<rows.length:=by rw[zA] at h;(try dsimp only [zG] at *);omega
   have f:=fb1 i
   clear fms' bsts lB lC lD fa1 fb1
   generalize B i=X at *
   cbv
   refine aO gG ?_
   cbv
   exact⟨zD om om,i+1,(by show i+1≤rows.length;omega),(by show rows.length - (i+1)<rows.length - i;omega),wkY (by cbv;repeat' first | exact trivial | exact lR | exact zC om | exact z0 rfl (by first | rfl | (rw[f];done) | (simp [zQ,zA];done) | (rw[f];simp [zQ,zA];done)) | exact zF (by first | rfl | (rw[f];done) | (rw[f];rfl) | (rw[←yH];rfl) | (rw[f,←yH];rfl)) | apply And.intro)⟩
  have hN':i=rows.length:=by rw[zA] at h;(try dsimp only [zG] at *);omega
  rw[hN'] at l1 ⊢
  clear l1 lB hi' h hN'
  cbv
  refine zY (σ:=Nat) (fun i=>⟨[(1,.ptr 1 0),(3,.osl 3 4 (fun _=>0) (fun _=>(C i).length)),(6,.int .i64 (fun _=>(i:Int)))],[(1,.box [.int .i64 (fun _=>gn),alv us,alv os,rlv lo,rlv hi,alv rows,tsv ts,.bool (fun _=>c1),nat c2,nat c3,dlv path,llv L]),(3,.arr 4 (fun _=>enc rwc (C i)))]⟩)
   (fun i=>i≤path.length) (fun i=>path.length - i) 0 (Nat.zero_le _) (wkY (by cbv;repeat' first | exact trivial | exact lR | exact zC om | exact z0 rfl (by first | rfl | (rw[c0];done) | (simp [zQ,zA];done) | (rw[c0];simp [zQ,zA];done)) | exact zF (by first | rfl | (rw[c0];done) | (rw[c0];rfl) | (rw[←yH];rfl) | (rw[c0,←yH];rfl)) | apply And.intro)) ?_
  intro i hi'
  have l1:=lC i hi'
  cbv
  refine zH (fun h=>?_) (fun h=>?_)
  ·have hlt:i<path.length:=by rw[zA] at h;(try dsimp only [zG] at *);omega
   obtain⟨V,W,cF,f⟩:=fms' i
   clear fms' bsts lC lD fa1 fb1
   generalize C i=X at *
   cbv
   refine cA cF ?_
   cbv
   refine zS (fun e=>?_) (fun e=>?_)
   ·rw[if_pos e] at f
    cbv
    refine aO gG ?_
    cbv
    exact⟨zD om om,i+1,(by show i+1≤path.length;omega),(by show path.length - (i+1)<path.length - i;omega),wkY (by cbv;repeat' first | exact trivial | exact lR | exact zC om | exact z0 rfl (by first | rfl | (rw[f];done) | (simp [zQ,zA];done) | (rw[f];simp [zQ,zA];done)) | exact zF (by first | rfl | (rw[f];done) | (rw[f];rfl) | (rw[←yH];rfl) | (rw[f,←yH];rfl)) | apply And.intro)⟩
   ·rw[if_neg (by rw[e];decide),List.append_nil] at f
    cbv
    exact⟨zD om om,i+1,(by show i+1≤path.length;omega),(by show path.length - (i+1)<path.length - i;omega),wkY (by cbv;repeat' first | exact trivial | exact lR | exact zC om | exact z0 rfl (by first | rfl | (rw[f];done) | (simp [zQ,zA];done) | (rw[f];simp [zQ,zA];done)) | exact zF (by first | rfl | (rw[f];done) | (rw[f];rfl) | (rw[←yH];rfl) | (rw[f,←yH];rfl)) | apply And.intro)⟩
  have hN':i=path.length:=by rw[zA] at h;(try dsimp only [zG] at *);omega
  rw[hN'] at l1 ⊢
  clear l1 lC hi' h hN' fms'
  cbv
  refine zY (σ:=Nat) (fun j=>⟨[(1,.ptr 1 0),(3,.osl 3 4 (fun _=>0) (fun _=>(D j).length)),(10,.int .i64 (fun _=>(j:Int)))],[(1,.box [.int .i64 (fun _=>gn),alv us,alv os,rlv lo,rlv hi,alv rows,tsv ts,.bool (fun _=>c1),nat c2,nat c3,dlv path,llv L]),(3,.arr 4 (fun _=>enc rwc (D j)))]⟩)
   (fun j=>j≤us.length) (fun j=>us.length - j) 0 (Nat.zero_le _) (wkY (by cbv;repeat' first | exact trivial | exact lR | exact zC om | exact z0 rfl (by first | rfl | (rw[d0];done) | (simp [zQ,zA];done) | (rw[d0];simp [zQ,zA];done)) | exact zF (by first | rfl | (rw[d0];done) | (rw[d0];rfl) | (rw[←yH];rfl) | (rw[d0,←yH];rfl)) | apply And.intro)) ?_
  intro j hj
  have l1:=lD j hj
  cbv
  refine zH (fun h=>?_) (fun h=>?_)
  ·have hlt:j<us.length:=by rw[zA] at h;(try dsimp only [zG] at *);omega
   obtain⟨b1,b2,on,off,d1,d2,ron,rof,cB,cP,cD1,cD2,z1,z2,f,o1,o2,o3,o4⟩:=bsts j
   clear bsts lD fa1 fb1
   have fin:∀ X',D j++X'=D (j+1)→(D (j+1)).length=(D j++X').length∧enc rwc (D (j+1))=enc rwc (D j++X'):=fun X' h=>by rw[h];exact⟨rfl,rfl⟩
   have hlen3:ron.length≤3:=by cases hd:d1 with
    | true=>rw[o1 hd];simp
    | false=>rw[o2 hd];simp
   have hlen4:rof.length≤3:=by cases hd:d2 with
    | true=>rw[o3 hd];simp
    | false=>rw[o4 hd];simp
   generalize hX:D j=X at *
   cbv
   refine cA cB ?_
   cbv
   refine cA cP ?_
   cbv
   refine nA (σ:=List Row) (fun Y=>⟨[(1,.ptr 1 0),(3,.osl 3 4 (fun _=>0) (fun _=>(Y).length)),(10,.int .i64 (fun _=>(j:Int))),(11,.int .i64 (fun _=>(b1:Int))),(12,.int .i64 (fun _=>(b2:Int))),(13,.bool (fun _=>on)),(14,.bool (fun _=>off))],[(1,.box [.int .i64 (fun _=>gn),alv us,alv os,rlv lo,rlv hi,alv rows,tsv ts,.bool (fun _=>c1),nat c2,nat c3,dlv path,llv L]),(3,.arr 4 (fun _=>enc rwc (Y)))]⟩) (fun Y=>Y=X++(if on=true then ron else [])) (fun e=>?_) (fun e=>?_) (fun Y hY=>?_)
   ·cbv
    refine cA cD1 ?_
    cbv
    refine zS (fun e'=>?_) (fun e'=>?_)
    ·cbv
     refine aO gG ?_
     cbv
     refine⟨X++[⟨6,j,0,0⟩,⟨7,j,0,0⟩,⟨8,j,0,0⟩],by rw[if_pos e,o1 e'],wkY (by cbv;repeat' first | exact trivial | exact lR | exact zC om | exact z0 rfl (by first | rfl | (rw[e];done) | (simp [zQ,zA];done) | (rw[e];simp [zQ,zA];done)) | exact zF (by first | rfl | (rw[e];done) | (rw[e];rfl) | (rw[←yH];rfl) | (rw[e,←yH];rfl)) | apply And.intro)⟩
    ·cbv
     refine aO gG ?_
     cbv
     refine⟨X++[⟨6,j,0,0⟩,⟨7,j,(b1:Int),0⟩,⟨8,j,(b1:Int),0⟩],by rw[if_pos e,o2 e'],wkY (by cbv;repeat' first | exact trivial | exact lR | exact zC om | exact z0 rfl (by first | rfl | (rw[e];done) | (simp [zQ,zA];done) | (rw[e];simp [zQ,zA];done)) | exact zF (by first | rfl | (rw[e];done) | (rw[e];rfl) | (rw[←yH];rfl) | (rw[e,←yH];rfl)) | apply And.intro)⟩
   ·cbv
    exact⟨X,by rw[if_neg (by rw[e];decide),List.append_nil],wkY (by cbv;repeat' first | exact trivial | exact lR | exact zC om | exact z0 rfl (by first | rfl | (rw[e];done) | (simp [zQ,zA];done) | (rw[e];simp [zQ,zA];done)) | exact zF (by first | rfl | (rw[e];done) | (rw[e];rfl) | (rw[←yH];rfl) | (rw[e,←yH];rfl)) | apply And.intro)⟩
   have ly:Y.length≤100000003:=by rw[hY,List.length_append];split <;> (try simp only[List.length_nil]) <;> omega
   cbv
   refine nA (σ:=List Row) (fun Y'=>⟨[(1,.ptr 1 0),(3,.osl 3 4 (fun _=>0) (fun _=>(Y').length)),(10,.int .i64 (fun _=>(j:Int))),(11,.int .i64 (fun _=>(b1:Int))),(12,.int .i64 (fun _=>(b2:Int))),(13,.bool (fun _=>on)),(14,.bool (fun _=>off))],[(1,.box [.int .i64 (fun _=>gn),alv us,alv os,rlv lo,rlv hi,alv rows,tsv ts,.bool (fun _=>c1),nat c2,nat c3,dlv path,llv L]),(3,.arr 4 (fun _=>enc rwc (Y')))]⟩) (fun Y'=>Y'=Y++(if off=true then rof else [])) (fun e=>?_) (fun e=>?_) (fun Y' hY'=>?_)
   ·cbv
    refine cA cD2 ?_
    cbv
    refine zS (fun e'=>?_) (fun e'=>?_)
    ·cbv
     refine aO gG ?_
     cbv
     refine⟨Y++[⟨5,j,0,0⟩,⟨9,j,0,0⟩,⟨10,j,0,0⟩],by rw[if_pos e,o3 e'],wkY (by cbv;repeat' first | exact trivial | exact lR | exact zC om | exact z0 rfl (by first | rfl | (rw[e];done) | (simp [zQ,zA];done) | (rw[e];simp [zQ,zA];done)) | exact zF (by first | rfl | (rw[e];done) | (rw[e];rfl) | (rw[←yH];rfl) | (rw[e,←yH];rfl)) | apply And.intro)⟩
    ·cbv
     refine aO gG ?_
     cbv
     refine⟨Y++[⟨5,j,0,0⟩,⟨9,j,0,(b2:Int)⟩,⟨10,j,0,(b2:Int)⟩],by rw[if_pos e,o4 e'],wkY (by cbv;repeat' first | exact trivial | exact lR | exact zC om | exact z0 rfl (by first | rfl | (rw[e];done) | (simp [zQ,zA];done) | (rw[e];simp [zQ,zA];done)) | exact zF (by first | rfl | (rw[e];done) | (rw[e];rfl) | (rw[←yH];rfl) | (rw[e,←yH];rfl)) | apply And.intro)⟩
   ·cbv
    exact⟨Y,by rw[if_neg (by rw[e];decide),List.append_nil],wkY (by cbv;repeat' first | exact trivial | exact lR | exact zC om | exact z0 rfl (by first | rfl | (rw[e];done) | (simp [zQ,zA];done) | (rw[e];simp [zQ,zA];done)) | exact zF (by first | rfl | (rw[e];done) | (rw[e];rfl) | (rw[←yH];rfl) | (rw[e,←yH];rfl)) | apply And.intro)⟩
   have ly':Y'.length≤100000006:=by rw[hY',List.length_append];split <;> (try simp only[List.length_nil]) <;> omega
   have f':D (j+1)=Y'++(if on=true∨off=true then [] else [⟨5,j,0,0⟩,⟨6,j,0,0⟩]++(if 0<b1 then [⟨11,j,(b1:Int),0⟩] else [])++(if 0<b2 then [⟨12,j,0,(b2:Int)⟩] else [])++(if 0<b1∧0<b2 then [⟨13,j,(b1:Int),(b2:Int)⟩] else [])):=by
    rw[f,hY',hY];simp only[List.append_assoc]
   clear f hY hY' o1 o2 o3 o4 cB cP cD1 cD2 fin hX l1 ly hlen3 hlen4
   cbv
   refine z4 (fun e1=>?_) (fun e1=>?_)
   ·rw[if_pos (.inl e1),List.append_nil] at f'
    cbv
    exact⟨zD om om,j+1,(by show j+1≤us.length;omega),(by show us.length - (j+1)<us.length - j;omega),wkY (by cbv;repeat' first | exact trivial | exact lR | exact zC om | exact z0 rfl (by first | rfl | (rw[f'];done) | (simp [zQ,zA];done) | (rw[f'];simp [zQ,zA];done)) | exact zF (by first | rfl | (rw[f'];done) | (rw[f'];rfl) | (rw[←yH];rfl) | (rw[f',←yH];rfl)) | apply And.intro)⟩
   cbv
   refine zS (fun e2=>?_) (fun e2=>?_)
   ·rw[if_pos (.inr e2),List.append_nil] at f'
    cbv
    exact⟨zD om om,j+1,(by show j+1≤us.length;omega),(by show us.length - (j+1)<us.length - j;omega),wkY (by cbv;repeat' first | exact trivial | exact lR | exact zC om | exact z0 rfl (by first | rfl | (rw[f'];done) | (simp [zQ,zA];done) | (rw[f'];simp [zQ,zA];done)) | exact zF (by first | rfl | (rw[f'];done) | (rw[f'];rfl) | (rw[←yH];rfl) | (rw[f',←yH];rfl)) | apply And.intro)⟩
   rw[if_neg (by rw[e1,e2];decide)] at f'
   cbv
   refine aO gG ?_
   cbv
   refine zH (fun e3=>?_) (fun e3=>?_)
   ·have p1:0<b1:=by (try dsimp only [zG] at *);omega
    rw[if_pos p1] at f'
    cbv
    refine aO gG ?_
    cbv
    refine zH (fun e4=>?_) (fun e4=>?_)
    ·have p2:0<b2:=by (try dsimp only [zG] at *);omega
     rw[if_pos p2] at f'
     rw[if_pos ⟨p1,p2⟩] at f'
     cbv
     refine aO gG ?_
     cbv
     refine xR om ?_
     cbv
     refine xI om ?_
     cbv
     refine aO gG ?_
     cbv
     exact⟨zD om om,j+1,(by show j+1≤us.length;omega),(by show us.length - (j+1)<us.length - j;omega),wkY (by cbv;repeat' first | exact trivial | exact lR | exact zC om | exact z0 rfl (by rw[f'];simp [zQ,zA]) | exact zF (by rw[f'];simp only[←yH,List.append_assoc];rfl) | apply And.intro)⟩
    ·have p2:¬ 0<b2:=by (try dsimp only [zG] at *);omega
     rw[if_neg p2] at f'
     rw[if_neg (fun g=>p2 g.2)] at f'
     cbv
     refine xR om ?_
     cbv
     refine z3 om ?_
     cbv
     exact⟨zD om om,j+1,(by show j+1≤us.length;omega),(by show us.length - (j+1)<us.length - j;omega),wkY (by cbv;repeat' first | exact trivial | exact lR | exact zC om | exact z0 rfl (by rw[f'];simp [zQ,zA]) | exact zF (by rw[f'];simp only[←yH,List.append_assoc];rfl) | apply And.intro)⟩
   ·have p1:¬ 0<b1:=by (try dsimp only [zG] at *);omega
    rw[if_neg p1] at f'
    cbv
    refine zH (fun e4=>?_) (fun e4=>?_)
    ·have p2:0<b2:=by (try dsimp only [zG] at *);omega
     rw[if_pos p2] at f'
     rw[if_neg (fun g=>p1 g.1)] at f'
     cbv
     refine aO gG ?_
     cbv
     refine zW om ?_
     cbv
     exact⟨zD om om,j+1,(by show j+1≤us.length;omega),(by show us.length - (j+1)<us.length - j;omega),wkY (by cbv;repeat' first | exact trivial | exact lR | exact zC om | exact z0 rfl (by rw[f'];simp [zQ,zA]) | exact zF (by rw[f'];simp only[←yH,List.append_assoc];rfl) | apply And.intro)⟩
    ·have p2:¬ 0<b2:=by (try dsimp only [zG] at *);omega
     rw[if_neg p2] at f'
     rw[if_neg (fun g=>p1 g.1)] at f'
     cbv
     refine zW om ?_
     cbv
     exact⟨zD om om,j+1,(by show j+1≤us.length;omega),(by show us.length - (j+1)<us.length - j;omega),wkY (by cbv;repeat' first | exact trivial | exact lR | exact zC om | exact z0 rfl (by rw[f'];simp [zQ,zA]) | exact zF (by rw[f'];simp only[←yH,List.append_assoc];rfl) | apply And.intro)⟩
  have hN':j=us.length:=by rw[zA] at h;(try dsimp only [zG] at *);omega
  rw[hN'] at l1 ⊢
  clear l1 lD hj h hN' bsts
  generalize D us.length=X at *
  have hT:((enc rwc X).drop 0).take X.length=enc rwc X:=by rw[List.drop_zero,←zA rwc X,List.take_length]
  have hfr:0+X.length≤(enc rwc X).length:=by rw[zA];omega
  cbv
  refine rP _ (.trans (.le (ps':=⟨[(2,.osl 3 4 (fun _=>0) (fun _=>X.length))],[(3,.arr 4 (fun _=>enc rwc X))]⟩) ?_ ?_ rfl) (.frz 3 rfl rfl ?_ ?_)) rfl ?_
  ·cbv
   exact okA
  ·cbv
   exact⟨zF rfl,trivial⟩
  ·cbv
   repeat' first | exact trivial | exact⟨hfr⟩ | apply And.intro
  ·cbv
   repeat' first | exact trivial | apply And.intro
  cbv
  exact zP hT
theorem remw (w:UInt8):nx .i64 (irem (w.toNat:Int) 8)=(((w % 8).toNat:Nat):Int):=by
 have h:=w.toNat_lt
 unfold irem nx
 have e:Int.tmod (w.toNat:Int) 8=((w.toNat % 8:Nat):Int):=(Int.ofNat_tmod _ _).symm
 rw[e,UInt8.toNat_mod]
 show IntKind.wrap .i64 ((w.toNat % 8:Nat):Int)=((w.toNat % 8:Nat):Int)
 have h8:w.toNat % 8<8:=Nat.mod_lt _ (by decide)
 generalize w.toNat % 8=k at *
 simp [IntKind.wrap,IntKind.signed,IntKind.bits]
 omega
theorem zEF {q:Rat}{r:Row}{acc:List (Row × Rat)}{i:Nat}(hq:Fits 1 q)(h:∀ t,t∈acc→Fits (2 * i+1) t.2):∀ t,t∈plMq acc r q→Fits (2 * (i+1)+1) t.2:=fun t ht=>(zDR hq h t ht).mono (by omega)
theorem zI0 (w:UInt8):Fits 1 (jD ((w % 8).toNat:Int) 4):=by
 have h:(w % 8).toNat<8:=by rw[UInt8.toNat_mod];exact Nat.mod_lt _ (by decide)
 generalize (w % 8).toNat=k at *
 have:∀ k:Fin 8,(jD (k.val:Int) 4).num.natAbs<B∧(jD (k.val:Int) 4).den<B:=by decide +kernel
 obtain⟨h1,h2⟩:=this ⟨k,h⟩
 exact⟨by simpa using h1,by simpa using h2⟩
theorem zNO (s:Scp)(ws:List UInt8)(hs:s.sz (2^20))(hn:s.q.g.n≤1000000)(hr:s.q.r.rows.length≤1000000)(hp:s.path.length≤1000000)(hu:s.q.g.us.length≤1000000)(hw:ws.length≤1000) :
  zE 17 [sv s,u8v ws] (mlv (mR (qV s.all ws []))):=by
 refine sF Tryz.f17 ?_
 have ca:=zNM s hs hn hr hp hu
 have cfr:=fun w:UInt8=>s43 ((w % 8).toNat:Int) 4 (by omega) (by have:=(w % 8).toNat_lt;omega) (by decide) (by decide) (by decide)
 have cpl:∀ (acc:List (Row × Rat)) (r:Row) (w:UInt8) (i:Nat),i≤1000→acc.length≤i→(∀ t,t∈acc→Fits (2 * i+1) t.2)→zE 69 [mlv (mR acc),rwv r,rv (zJ (jD ((w % 8).toNat:Int) 4))] (mlv (mR (plMq acc r (jD ((w % 8).toNat:Int) 4)))):=fun acc r w i hi hl hf=>by
  have:=sPlM acc r (zJ (jD ((w % 8).toNat:Int) 4)) ⟨by omega,fun t ht=>(hf t ht).mono (by omega)⟩ ((z8 (zI0 w)).mono (by decide))
  rw[z9] at this
  exact this
 have hf8:=zI0
 generalize s.all=R at *
 obtain⟨res,hres⟩:∃ x,qV R ws []=x:=⟨_,rfl⟩
 rw[hres]
 have hC0:∀ (w:UInt8),0<4:=fun _=>by decide
 obtain⟨cm,hcm⟩:∃ c,qV=c:=⟨_,rfl⟩
 have k1:∀ r rs w ws l,cm (r::rs) (w::ws) l=cm rs ws (plMq l r (jD ((w % 8).toNat:Int) 4)):=fun r rs w ws l=>by rw[←hcm];rfl
 have k2:∀ ws l,cm [] ws l=l:=fun ws l=>by rw[←hcm];unfold qV;rfl
 have k3:∀ rs l,cm rs [] l=l:=fun rs l=>by rw[←hcm];cases rs <;> rfl
 rw[hcm] at hres
 obtain⟨⟨⟨gn,us,os⟩,⟨lo,hi,rows⟩,⟨ts,c1,c2,c3⟩⟩,path,L⟩:=s
 clear hs hn hr hp hu hcm hC0
 cbv
 refine cA ca ?_
 cbv
 refine zY (σ:=Nat × List (Row × Rat)) (fun st=>⟨[(1,u8v ws),(5,rsv R),(6,mlv (mR st.2)),(7,.int .i64 (fun _=>(st.1:Int)))],[]⟩)
  (fun st=>st.1≤R.length∧st.1≤ws.length∧cm (R.drop st.1) (ws.drop st.1) st.2=res∧st.2.length≤st.1∧∀ t,t∈st.2→Fits (2 * st.1+1) t.2) (fun st=>ws.length - st.1)
  (0,[]) ⟨Nat.zero_le _,Nat.zero_le _,hres,Nat.le_refl _,fun t ht=>absurd ht (by simp)⟩ (wkZ) ?_
 intro st hst
 obtain⟨i,acc⟩:=st
 obtain⟨h1,h2,h3,h4,h5⟩:=hst
 dsimp only at h1 h2 h3 h4 h5
 clear hres
 have done:¬ (i<R.length∧i<ws.length)→acc=res:=fun h=>by
  rw[←h3]
  by_cases e:i<R.length
  ·rw[show ws.drop i=[] from List.drop_eq_nil_of_le (by omega),k3]
  ·rw[show R.drop i=[] from List.drop_eq_nil_of_le (by omega),k2]
 cbv
 refine zR (fun e1=>?_) (fun e1=>?_)
 ·have lt1:=jL e1
  cbv
  refine zH (fun e2=>?_) (fun e2=>?_)
  ·have lt2:=jL e2
   obtain⟨r,hr⟩:=yA lt1
   obtain⟨w,hw'⟩:=yA lt2
   have c1':=cfr w
   have c2':=cpl acc r w i (by omega) h4 h5
   rw[zZ hr,zZ hw',k1] at h3
   have f1:=zEF (r:=r) (hf8 w) h5
   have f2:=zDS r (jD ((w % 8).toNat:Int) 4) acc
   have f3:=remw w
   have hw8:=w.toNat_lt
   clear cfr cpl hf8 k1 k2 k3 done
   generalize plMq acc r (jD ((w % 8).toNat:Int) 4)=acc' at *
   generalize zJ (jD ((w % 8).toNat:Int) 4)=V at *
   cbv
   refine wL hw' zDC zBH ?_
   cbv
   refine⟨vG om,?_⟩
   cbv
   refine yX rfl (by exact⟨zC f3,lR,trivial⟩) c1' rfl ?_
   cbv
   refine zO 6 (by cbv) ?_
   cbv
   refine wL hr zJS zNP ?_
   cbv
   refine cA c2' ?_
   cbv
   exact⟨zD om om,(i+1,acc'),⟨by show i+1≤R.length;omega,by show i+1≤ws.length;omega,h3,by show acc'.length≤i+1;omega,f1⟩,(by show ws.length - (i+1)<ws.length - i;omega),wkZ⟩
  ·have:=done (fun h=>by have:=cG e2 h2;omega)
   subst this
   cbv
   (refine rC ?_;cbv)
   exact lR
 ·have:=done (fun h=>by have:=cG e1 h1;omega)
  subst this
  cbv
  (refine rC ?_;cbv)
  exact lR
theorem iZ (raw:List UInt8)(hr:raw.length<2^38):zE 14 [u8v raw] (sv (fdS raw).bounded):=by
 refine sF Tryz.f14 ?_
 have c1:=zJL raw hr
 have c2:=zNL raw
 generalize (fdS raw).bounded=B at *
 generalize fdS raw=S at *
 cbv
 refine cA c1 ?_
 cbv
 refine cA c2 ?_
 cbv
 (refine rC ?_;cbv)
 exact okA
end Go.Proofs.YtgcpehdkdnkgeaaGreat
