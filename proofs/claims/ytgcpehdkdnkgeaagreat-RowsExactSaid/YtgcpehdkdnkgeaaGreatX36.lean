/- A part of the proof: AlB, AlC, SpX, EvA, LxA, BrC. -/
import Derived.Test.YtgcpehdkdnkgeaaGreatX35
import Derived.Test.YtgcpehdkdnkgeaaGreatX33
import Derived.Test.YtgcpehdkdnkgeaaGreatX24
import Derived.Test.YtgcpehdkdnkgeaaGreatX34
import Derived.Test.YtgcpehdkdnkgeaaGreatX31
import Derived.Test.YtgcpehdkdnkgeaaGreatX28
import Derived.Test.YtgcpehdkdnkgeaaGreatX30
import Derived.Test.YtgcpehdkdnkgeaaGreatX23
import Derived.Test.YtgcpehdkdnkgeaaGreatX25
import Derived.Test.YtgcpehdkdnkgeaaGreatX29
set_option linter.all false
namespace Go.Proofs.YtgcpehdkdnkgeaaGreat
open Go
set_option maxRecDepth 100000
set_option maxHeartbeats 4000000
abbrev rsv (l:List Row):PV:=.sl (fun _=>enc rwc l)
theorem jG (a:Row):yT uT (rwc a)=true:=rfl
theorem gC (a:Row):(rwc a).length=4:=rfl
theorem vG:ty 63=.sli 4 32 [.int .i64 (fun _=>0),.int .i64 (fun _=>0),.int .i64 (fun _=>0),.int .i64 (fun _=>0)]:=by cbv
structure AllSeq (s:Scp) (A B C D:Nat→List Row):Prop where
 a0:A 0=[]
 a1:∀ i:Nat,A (i+1)=A i++[⟨1,i,0,0⟩,⟨2,i,0,0⟩]
 b0:B 0=A s.q.g.n.toNat
 b1:∀ i:Nat,B (i+1)=B i++[⟨3,i,0,0⟩]
 c0:C 0=B s.q.r.rows.length
 c1:∀ i:Nat,C (i+1)=C i++(if (s.fm ⟨4,(i:Int),0,0⟩).isSome=true then [⟨4,i,0,0⟩] else [])
 d0:D 0=C s.path.length
 d1:∀ j:Nat,D (j+1)=D j++s.rowsU j
 e:s.all=D s.q.g.us.length
 la:∀ i,(A i).length≤2 * i
 lb:∀ i,(B i).length≤2 * s.q.g.n.toNat+i
 lc:∀ i,(C i).length≤2 * s.q.g.n.toNat+s.q.r.rows.length+i
 ld:∀ i,(D i).length≤2 * s.q.g.n.toNat+s.q.r.rows.length+s.path.length+12 * i
theorem zAS (s:Scp)(j:Int):(s.rowsU j).length≤12:=by
 unfold Scp.rowsU Scp.rowsOn Scp.rowsOff Scp.rowsOpen
 simp only[List.length_append]
 repeat' split
 all_goals simp
theorem zCV {s:Scp}(hv:s.q.valid=true):∃ A B C D,AllSeq s A B C D:=by
 refine⟨fun i=>(List.range i).flatMap fun i:Nat=>[(⟨1,(i:Int),0,0⟩:Row),⟨2,(i:Int),0,0⟩],?_⟩
 generalize hA:(fun i=>(List.range i).flatMap fun i:Nat=>[(⟨1,(i:Int),0,0⟩:Row),⟨2,(i:Int),0,0⟩])=A
 refine⟨fun k=>A s.q.g.n.toNat++(List.range k).map fun i:Nat=>(⟨3,(i:Int),0,0⟩:Row),?_⟩
 generalize hB:(fun k=>A s.q.g.n.toNat++(List.range k).map fun i:Nat=>(⟨3,(i:Int),0,0⟩:Row))=B
 refine⟨fun k=>B s.q.r.rows.length++((List.range k).filter fun i:Nat=>(s.fm ⟨4,(i:Int),0,0⟩).isSome).map fun i:Nat=>(⟨4,(i:Int),0,0⟩:Row),?_⟩
 generalize hC:(fun k=>B s.q.r.rows.length++((List.range k).filter fun i:Nat=>(s.fm ⟨4,(i:Int),0,0⟩).isSome).map fun i:Nat=>(⟨4,(i:Int),0,0⟩:Row))=C
 refine⟨fun k=>C s.path.length++(List.range k).flatMap fun j:Nat=>s.rowsU (j:Int),?_⟩
 have la:∀ i,(A i).length≤2 * i:=fun i=>by
  rw[←hA]
  induction i with
  | zero=>simp
  | succ i ih =>
   show ((List.range (i+1)).flatMap _).length≤_
   rw[List.range_succ,List.flatMap_append,List.length_append]
   have:((List.range i).flatMap fun i:Nat=>[(⟨1,(i:Int),0,0⟩:Row),⟨2,(i:Int),0,0⟩]).length≤2 * i:=ih
   simp only[List.flatMap_cons,List.flatMap_nil,List.length_append,List.length_cons,List.length_nil]
   omega
 have lb:∀ i,(B i).length≤2 * s.q.g.n.toNat+i:=fun i=>by
  rw[←hB]
  have:=la s.q.g.n.toNat
  simp
  omega
 have lc:∀ i,(C i).length≤2 * s.q.g.n.toNat+s.q.r.rows.length+i:=fun i=>by
  rw[←hC]
  have h1:=lb s.q.r.rows.length
  have h2:=List.length_filter_le (fun i:Nat=>(s.fm ⟨4,(i:Int),0,0⟩).isSome) (List.range i)
  rw[List.length_range] at h2
  simp only[List.length_append,List.length_map]
  omega
 refine⟨by rw[←hA];rfl,fun i=>by rw[←hA];simp [List.range_succ,List.flatMap_append],by rw[←hB];simp,fun i=>by rw[←hB];simp [List.range_succ],by rw[←hC];simp,fun i=>by
   rw[←hC]
   show B _++_=_
   rw[List.range_succ,List.filter_append,List.map_append,←List.append_assoc]
   congr 1
   by_cases h:(s.fm ⟨4,(i:Int),0,0⟩).isSome=true
   ·rw[if_pos h];simp [h]
   ·rw[if_neg h];simp [h],by simp,fun j=>by simp [List.range_succ,List.flatMap_append],?_,la,lb,lc,fun i=>?_⟩
 ·unfold Scp.all
  rw[if_neg (by rw[hv];decide),←hC,←hB,←hA]
 ·have h1:=lc s.path.length
  show (C _++_).length≤_
  rw[List.length_append]
  have:((List.range i).flatMap fun j:Nat=>s.rowsU (j:Int)).length≤12 * i:=by
   induction i with
   | zero=>simp
   | succ i ih =>
    rw[List.range_succ,List.flatMap_append,List.length_append]
    have:=zAS s (i:Int)
    simp only[List.flatMap_cons,List.flatMap_nil,List.append_nil]
    omega
  omega
theorem zHK (s:Scp)(hs:s.sz (2^20))(hn:s.q.g.n≤1000000)(hr:s.q.r.rows.length≤1000000)(hp:s.path.length≤1000000)(hu:s.q.g.us.length≤1000000):zB 26 [sv s] (rsv s.all):=by
 refine sF Tryz.f26 ?_
 have cv:=zF4 s.q (hs.q.mono (by decide))
 have cf:=fun i:Nat=>zD7 s ⟨4,i,0,0⟩ hs
 have cb:=fun j:Nat=>eI s j hs.lems
 have cph:=fun j:Nat=>zQ6 s j hs
 have cd1:=fun j:Nat=>bZ s 1 j (hs.path.mono (by decide))
 have cd2:=fun j:Nat=>bZ s 2 j (hs.path.mono (by decide))
 cases hv:s.q.valid with
 | false =>
  have hall:s.all=[]:=by unfold Scp.all;rw[if_pos hv]
  rw[hall]
  rw[hv] at cv
  obtain⟨⟨⟨gn,us,os⟩,⟨lo,hi,rows⟩,⟨ts,c1,c2,c3⟩⟩,path,L⟩:=s
  cbv
  refine cA cv ?_
  cbv
  refine cZ rfl ?_
  cbv
  (refine rC ?_;cbv)
  exact yX rfl
 | true =>
  obtain⟨A,B,C,D,Q⟩:=zCV hv
  rw[hv] at cv
  have fa1:=Q.a1
  have fb1:=Q.b1
  have fc1:=Q.c1
  have fd1:=Q.d1
  have la:=Q.la
  have lb:=Q.lb
  have lc':=Q.lc
  have ld:=Q.ld
  have hN:s.q.g.n≤0∨s.q.g.n=(s.q.g.n.toNat:Int):=by omega
  rw[Q.e]
  have a0:=Q.a0
  have b0:=Q.b0
  have c0:=Q.c0
  have d0:=Q.d0
  have un:∀ j:Nat,s.rowsU j=(if s.onU j=true then s.rowsOn j else [])++(if s.offU j=true then s.rowsOff j else [])++(if s.onU j=true∨s.offU j=true then [] else s.rowsOpen j):=fun j=>rfl
  have ro1:∀ j:Nat,s.dcd 1 j=true→s.rowsOn j=[⟨6,j,0,0⟩,⟨7,j,0,0⟩,⟨8,j,0,0⟩]:=fun j h=>by unfold Scp.rowsOn;rw[if_pos h]
  have ro2:∀ j:Nat,s.dcd 1 j=false→s.rowsOn j=[⟨6,j,0,0⟩,⟨7,j,((s.best j).1:Int),0⟩,⟨8,j,((s.best j).1:Int),0⟩]:=fun j h=>by unfold Scp.rowsOn;rw[if_neg (by rw[h];decide)]
  have rf1:∀ j:Nat,s.dcd 2 j=true→s.rowsOff j=[⟨5,j,0,0⟩,⟨9,j,0,0⟩,⟨10,j,0,0⟩]:=fun j h=>by unfold Scp.rowsOff;rw[if_pos h]
  have rf2:∀ j:Nat,s.dcd 2 j=false→s.rowsOff j=[⟨5,j,0,0⟩,⟨9,j,0,((s.best j).2:Int)⟩,⟨10,j,0,((s.best j).2:Int)⟩]:=fun j h=>by unfold Scp.rowsOff;rw[if_neg (by rw[h];decide)]
  have rop:∀ j:Nat,s.rowsOpen j=[⟨5,j,0,0⟩,⟨6,j,0,0⟩]++(if 0<(s.best j).1 then [⟨11,j,((s.best j).1:Int),0⟩] else [])++(if 0<(s.best j).2 then [⟨12,j,0,((s.best j).2:Int)⟩] else [])++(if 0<(s.best j).1∧0<(s.best j).2 then [⟨13,j,((s.best j).1:Int),((s.best j).2:Int)⟩] else []):=fun j=>rfl
  have bl:∀ j:Nat,(s.best j).1<2^40∧(s.best j).2<2^40:=fun j=>by
   have:=hs.lems.len
   constructor
   ·rcases Nat.eq_zero_or_pos (s.best j).1 with h | h
    ·omega
    ·obtain⟨m,hm,_⟩:=fS (s:=s) (unit:=j) (.inl rfl) (by omega)
     have:=(List.getElem?_eq_some_iff.1 hm).1
     omega
   ·rcases Nat.eq_zero_or_pos (s.best j).2 with h | h
    ·omega
    ·obtain⟨m,hm,_⟩:=fS (s:=s) (unit:=j) (.inr rfl) (by omega)
     have:=(List.getElem?_eq_some_iff.1 hm).1
     omega
  have fms:∀ i:Nat,∃ (V:Go.Proofs.YtgcpehdkdnkgeaaGreat.A) (W:Bool),(s.fm ⟨4,(i:Int),0,0⟩).isSome=W∧zB 71 [sv s,rwv ⟨4,i,0,0⟩] (.tup [av V,.bool (fun _=>W)]):=fun i=>⟨_,_,rfl,cf i⟩
  have bsts:∀ j:Nat,∃ (x1 x2:Nat) (on off d1 d2:Bool) (ron rof:List Row),zB 83 [sv s,.int .i64 (fun _=>(j:Int))] (.tup [.int .i64 (fun _=>(x1:Int)),.int .i64 (fun _=>(x2:Int))])∧zB 84 [sv s,.int .i64 (fun _=>(j:Int))] (.tup [.bool (fun _=>on),.bool (fun _=>off)]) ∧
    zB 85 [sv s,.int .i64 (fun _=>1),.int .i64 (fun _=>(j:Int))] (.bool (fun _=>d1))∧zB 85 [sv s,.int .i64 (fun _=>2),.int .i64 (fun _=>(j:Int))] (.bool (fun _=>d2))∧x1<2^40∧x2<2^40 ∧
    D (j+1)=D j++((if on=true then ron else [])++(if off=true then rof else [])++(if on=true∨off=true then [] else [⟨5,j,0,0⟩,⟨6,j,0,0⟩]++(if 0<x1 then [⟨11,j,(x1:Int),0⟩] else [])++(if 0<x2 then [⟨12,j,0,(x2:Int)⟩] else [])++(if 0<x1∧0<x2 then [⟨13,j,(x1:Int),(x2:Int)⟩] else []))) ∧
    (d1=true→ron=[⟨6,j,0,0⟩,⟨7,j,0,0⟩,⟨8,j,0,0⟩])∧(d1=false→ron=[⟨6,j,0,0⟩,⟨7,j,(x1:Int),0⟩,⟨8,j,(x1:Int),0⟩])∧(d2=true→rof=[⟨5,j,0,0⟩,⟨9,j,0,0⟩,⟨10,j,0,0⟩])∧(d2=false→rof=[⟨5,j,0,0⟩,⟨9,j,0,(x2:Int)⟩,⟨10,j,0,(x2:Int)⟩]):=fun j =>
   ⟨_,_,_,_,_,_,_,_,cb j,cph j,cd1 j,cd2 j,(bl j).1,(bl j).2,by rw[fd1 j,un j,rop j],ro1 j,ro2 j,rf1 j,rf2 j⟩
  clear ro1 ro2 rf1 rf2 rop bl un cb cph cd1 cd2 fd1 cf Q hs hv
  generalize hNn:s.q.g.n.toNat=N at *
  have fms':∀ i:Nat,∃ (V:Go.Proofs.YtgcpehdkdnkgeaaGreat.A) (W:Bool),zB 71 [sv s,rwv ⟨4,i,0,0⟩] (.tup [av V,.bool (fun _=>W)])∧C (i+1)=C i++(if W=true then [⟨4,i,0,0⟩] else []):=fun i=>by
   obtain⟨V,W,h1,h2⟩:=fms i
   exact⟨V,W,h2,by rw[←h1];exact fc1 i⟩
  clear fms fc1
  obtain⟨⟨⟨gn,us,os⟩,⟨lo,hi,rows⟩,⟨ts,c1,c2,c3⟩⟩,path,L⟩:=s
  dsimp only at hn hr hp hu hN hNn lb lc' ld b0 c0 d0
  have hN1:N≤1000000:=by omega
  have lA:∀ i,i≤N→(A i).length≤100000000:=fun i h=>by have:=la i;omega
  have lB:∀ i,i≤rows.length→(B i).length≤100000000:=fun i h=>by have:=lb i;omega
  have lC:∀ i,i≤path.length→(C i).length≤100000000:=fun i h=>by have:=lc' i;omega
  have lD:∀ i,i≤us.length→(D i).length≤100000000:=fun i h=>by have:=ld i;omega
  clear la lb lc' ld
  cbv
  refine cA cv ?_
  cbv
  refine vH rfl ?_
  cbv
  refine z4 (σ:=Nat) (fun i=>⟨[(1,.ptr 1 0),(3,.osl 3 4 (fun _=>0) (fun _=>(A i).length)),(4,.int .i64 (fun _=>(i:Int)))],[(1,.box [.int .i64 (fun _=>gn),alv us,alv os,rlv lo,rlv hi,alv rows,tsv ts,.bool (fun _=>c1),nat c2,nat c3,dlv path,llv L]),(3,.arr 4 (fun _=>enc rwc (A i)))]⟩)
   (fun i=>i≤N) (fun i=>N - i) 0 (Nat.zero_le _)
   (.trans (wkZ (ps':=⟨[(1,.ptr 1 0),(3,.nil),(4,.int .i64 (fun _=>((0:Nat):Int)))],[(1,.box [.int .i64 (fun _=>gn),alv us,alv os,rlv lo,rlv hi,alv rows,tsv ts,.bool (fun _=>c1),nat c2,nat c3,dlv path,llv L])]⟩)) (.trans (.adoptT (ps:=⟨[(1,.ptr 1 0),(3,.nil),(4,.int .i64 (fun _=>((0:Nat):Int)))],[(1,.box [.int .i64 (fun _=>gn),alv us,alv os,rlv lo,rlv hi,alv rows,tsv ts,.bool (fun _=>c1),nat c2,nat c3,dlv path,llv L])]⟩) 3 4 3 rfl rfl) (wkY (by cbv;repeat' first | exact trivial | exact lR | exact zE om | exact zW rfl (by first | rfl | (rw[a0];done) | (simp [zL,zA];done) | (rw[a0];simp [zL,zA];done)) | exact zI (by first | rfl | (rw[a0];done) | (rw[a0];rfl) | (rw[←zT];rfl) | (rw[a0,←zT];rfl)) | apply And.intro)))) ?_
  intro i hi'
  have l1:=lA i hi'
  cbv
  refine zF (fun h=>?_) (fun h=>?_)
  ·have hlt:i<N:=by (try dsimp only [zG] at *);omega
   have f:=fa1 i
   clear fms' bsts lA lB lC lD fa1 fb1
   generalize A i=X at *
   cbv
   refine aO vG ?_
   cbv
   exact⟨zH om om,i+1,(by show i+1≤N;omega),(by show N - (i+1)<N - i;omega),wkY (by cbv;repeat' first | exact trivial | exact lR | exact zE om | exact zW rfl (by first | rfl | (rw[f];done) | (simp [zL,zA];done) | (rw[f];simp [zL,zA];done)) | exact zI (by first | rfl | (rw[f];done) | (rw[f];rfl) | (rw[←zT];rfl) | (rw[f,←zT];rfl)) | apply And.intro)⟩
  have hN':i=N:=by (try dsimp only [zG] at *);omega
  subst hN'
  clear l1 lA hi' h
  cbv
  refine z4 (σ:=Nat) (fun i=>⟨[(1,.ptr 1 0),(3,.osl 3 4 (fun _=>0) (fun _=>(B i).length)),(5,.int .i64 (fun _=>(i:Int)))],[(1,.box [.int .i64 (fun _=>gn),alv us,alv os,rlv lo,rlv hi,alv rows,tsv ts,.bool (fun _=>c1),nat c2,nat c3,dlv path,llv L]),(3,.arr 4 (fun _=>enc rwc (B i)))]⟩)
   (fun i=>i≤rows.length) (fun i=>rows.length - i) 0 (Nat.zero_le _) (wkY (by cbv;repeat' first | exact trivial | exact lR | exact zE om | exact zW rfl (by first | rfl | (rw[b0];done) | (simp [zL,zA];done) | (rw[b0];simp [zL,zA];done)) | exact zI (by first | rfl | (rw[b0];done) | (rw[b0];rfl) | (rw[←zT];rfl) | (rw[b0,←zT];rfl)) | apply And.intro)) ?_
  intro i hi'
  have l1:=lB i hi'
  cbv
  refine zF (fun h=>?_) (fun h=>?_)
  ·have hlt:i<rows.length:=by rw[zA] at h;(try dsimp only [zG] at *);omega
   have f:=fb1 i
   clear fms' bsts lB lC lD fa1 fb1
   generalize B i=X at *
   cbv
   refine aO vG ?_
   cbv
   exact⟨zH om om,i+1,(by show i+1≤rows.length;omega),(by show rows.length - (i+1)<rows.length - i;omega),wkY (by cbv;repeat' first | exact trivial | exact lR | exact zE om | exact zW rfl (by first | rfl | (rw[f];done) | (simp [zL,zA];done) | (rw[f];simp [zL,zA];done)) | exact zI (by first | rfl | (rw[f];done) | (rw[f];rfl) | (rw[←zT];rfl) | (rw[f,←zT];rfl)) | apply And.intro)⟩
  have hN':i=rows.length:=by rw[zA] at h;(try dsimp only [zG] at *);omega
  rw[hN'] at l1 ⊢
  clear l1 lB hi' h hN'
  cbv
  refine z4 (σ:=Nat) (fun i=>⟨[(1,.ptr 1 0),(3,.osl 3 4 (fun _=>0) (fun _=>(C i).length)),(6,.int .i64 (fun _=>(i:Int)))],[(1,.box [.int .i64 (fun _=>gn),alv us,alv os,rlv lo,rlv hi,alv rows,tsv ts,.bool (fun _=>c1),nat c2,nat c3,dlv path,llv L]),(3,.arr 4 (fun _=>enc rwc (C i)))]⟩)
   (fun i=>i≤path.length) (fun i=>path.length - i) 0 (Nat.zero_le _) (wkY (by cbv;repeat' first | exact trivial | exact lR | exact zE om | exact zW rfl (by first | rfl | (rw[c0];done) | (simp [zL,zA];done) | (rw[c0];simp [zL,zA];done)) | exact zI (by first | rfl | (rw[c0];done) | (rw[c0];rfl) | (rw[←zT];rfl) | (rw[c0,←zT];rfl)) | apply And.intro)) ?_
  intro i hi'
  have l1:=lC i hi'
  cbv
  refine zF (fun h=>?_) (fun h=>?_)
  ·have hlt:i<path.length:=by rw[zA] at h;(try dsimp only [zG] at *);omega
   obtain⟨V,W,cF,f⟩:=fms' i
   clear fms' bsts lC lD fa1 fb1
   generalize C i=X at *
   cbv
   refine cA cF ?_
   cbv
   refine zV (fun e=>?_) (fun e=>?_)
   ·rw[if_pos e] at f
    cbv
    refine aO vG ?_
    cbv
    exact⟨zH om om,i+1,(by show i+1≤path.length;omega),(by show path.length - (i+1)<path.length - i;omega),wkY (by cbv;repeat' first | exact trivial | exact lR | exact zE om | exact zW rfl (by first | rfl | (rw[f];done) | (simp [zL,zA];done) | (rw[f];simp [zL,zA];done)) | exact zI (by first | rfl | (rw[f];done) | (rw[f];rfl) | (rw[←zT];rfl) | (rw[f,←zT];rfl)) | apply And.intro)⟩
   ·rw[if_neg (by rw[e];decide),List.append_nil] at f
    cbv
    exact⟨zH om om,i+1,(by show i+1≤path.length;omega),(by show path.length - (i+1)<path.length - i;omega),wkY (by cbv;repeat' first | exact trivial | exact lR | exact zE om | exact zW rfl (by first | rfl | (rw[f];done) | (simp [zL,zA];done) | (rw[f];simp [zL,zA];done)) | exact zI (by first | rfl | (rw[f];done) | (rw[f];rfl) | (rw[←zT];rfl) | (rw[f,←zT];rfl)) | apply And.intro)⟩
  have hN':i=path.length:=by rw[zA] at h;(try dsimp only [zG] at *);omega
  rw[hN'] at l1 ⊢
  clear l1 lC hi' h hN' fms'
  cbv
  refine z4 (σ:=Nat) (fun j=>⟨[(1,.ptr 1 0),(3,.osl 3 4 (fun _=>0) (fun _=>(D j).length)),(10,.int .i64 (fun _=>(j:Int)))],[(1,.box [.int .i64 (fun _=>gn),alv us,alv os,rlv lo,rlv hi,alv rows,tsv ts,.bool (fun _=>c1),nat c2,nat c3,dlv path,llv L]),(3,.arr 4 (fun _=>enc rwc (D j)))]⟩)
   (fun j=>j≤us.length) (fun j=>us.length - j) 0 (Nat.zero_le _) (wkY (by cbv;repeat' first | exact trivial | exact lR | exact zE om | exact zW rfl (by first | rfl | (rw[d0];done) | (simp [zL,zA];done) | (rw[d0];simp [zL,zA];done)) | exact zI (by first | rfl | (rw[d0];done) | (rw[d0];rfl) | (rw[←zT];rfl) | (rw[d0,←zT];rfl)) | apply And.intro)) ?_
  intro j hj
  have l1:=lD j hj
  cbv
  refine zF (fun h=>?_) (fun h=>?_)
  ·have hlt:j<us.length:=by rw[zA] at h;(try dsimp only [zG] at *);omega
   obtain⟨b1,b2,on,off,d1,d2,ron,rof,cB,cP,cD1,cD2,z1,z2,f,o1,o2,o3,o4⟩:=bsts j
   clear bsts lD fa1 fb1
   have fin:∀ X',D j++X'=D (j+1)→(D (j+1)).length=(D j++X').length∧enc rwc (D (j+1))=enc rwc (D j++X'):=fun X' h=>by rw[h];exact⟨rfl,rfl⟩
   have hlen3:ron.length≤3:=by cases hd:d1 with
    | true=>rw[o1 hd];simp
    | false=>rw[o2 hd];simp
   have hlen4:rof.length≤3:=by cases hd:d2 with
    | true=>rw[o3 hd];simp
    | false=>rw[o4 hd];simp
   generalize hX:D j=X at *
   cbv
   refine cA cB ?_
   cbv
   refine cA cP ?_
   cbv
   refine j5 (σ:=List Row) (fun Y=>⟨[(1,.ptr 1 0),(3,.osl 3 4 (fun _=>0) (fun _=>(Y).length)),(10,.int .i64 (fun _=>(j:Int))),(11,.int .i64 (fun _=>(b1:Int))),(12,.int .i64 (fun _=>(b2:Int))),(13,.bool (fun _=>on)),(14,.bool (fun _=>off))],[(1,.box [.int .i64 (fun _=>gn),alv us,alv os,rlv lo,rlv hi,alv rows,tsv ts,.bool (fun _=>c1),nat c2,nat c3,dlv path,llv L]),(3,.arr 4 (fun _=>enc rwc (Y)))]⟩) (fun Y=>Y=X++(if on=true then ron else [])) (fun e=>?_) (fun e=>?_) (fun Y hY=>?_)
   ·cbv
    refine cA cD1 ?_
    cbv
    refine zV (fun e'=>?_) (fun e'=>?_)
    ·cbv
     refine aO vG ?_
     cbv
     refine⟨X++[⟨6,j,0,0⟩,⟨7,j,0,0⟩,⟨8,j,0,0⟩],by rw[if_pos e,o1 e'],wkY (by cbv;repeat' first | exact trivial | exact lR | exact zE om | exact zW rfl (by first | rfl | (rw[e];done) | (simp [zL,zA];done) | (rw[e];simp [zL,zA];done)) | exact zI (by first | rfl | (rw[e];done) | (rw[e];rfl) | (rw[←zT];rfl) | (rw[e,←zT];rfl)) | apply And.intro)⟩
    ·cbv
     refine aO vG ?_
     cbv
     refine⟨X++[⟨6,j,0,0⟩,⟨7,j,(b1:Int),0⟩,⟨8,j,(b1:Int),0⟩],by rw[if_pos e,o2 e'],wkY (by cbv;repeat' first | exact trivial | exact lR | exact zE om | exact zW rfl (by first | rfl | (rw[e];done) | (simp [zL,zA];done) | (rw[e];simp [zL,zA];done)) | exact zI (by first | rfl | (rw[e];done) | (rw[e];rfl) | (rw[←zT];rfl) | (rw[e,←zT];rfl)) | apply And.intro)⟩
   ·cbv
    exact⟨X,by rw[if_neg (by rw[e];decide),List.append_nil],wkY (by cbv;repeat' first | exact trivial | exact lR | exact zE om | exact zW rfl (by first | rfl | (rw[e];done) | (simp [zL,zA];done) | (rw[e];simp [zL,zA];done)) | exact zI (by first | rfl | (rw[e];done) | (rw[e];rfl) | (rw[←zT];rfl) | (rw[e,←zT];rfl)) | apply And.intro)⟩
   have ly:Y.length≤100000003:=by rw[hY,List.length_append];split <;> (try simp only[List.length_nil]) <;> omega
   cbv
   refine j5 (σ:=List Row) (fun Y'=>⟨[(1,.ptr 1 0),(3,.osl 3 4 (fun _=>0) (fun _=>(Y').length)),(10,.int .i64 (fun _=>(j:Int))),(11,.int .i64 (fun _=>(b1:Int))),(12,.int .i64 (fun _=>(b2:Int))),(13,.bool (fun _=>on)),(14,.bool (fun _=>off))],[(1,.box [.int .i64 (fun _=>gn),alv us,alv os,rlv lo,rlv hi,alv rows,tsv ts,.bool (fun _=>c1),nat c2,nat c3,dlv path,llv L]),(3,.arr 4 (fun _=>enc rwc (Y')))]⟩) (fun Y'=>Y'=Y++(if off=true then rof else [])) (fun e=>?_) (fun e=>?_) (fun Y' hY'=>?_)
   ·cbv
    refine cA cD2 ?_
    cbv
    refine zV (fun e'=>?_) (fun e'=>?_)
    ·cbv
     refine aO vG ?_
     cbv
     refine⟨Y++[⟨5,j,0,0⟩,⟨9,j,0,0⟩,⟨10,j,0,0⟩],by rw[if_pos e,o3 e'],wkY (by cbv;repeat' first | exact trivial | exact lR | exact zE om | exact zW rfl (by first | rfl | (rw[e];done) | (simp [zL,zA];done) | (rw[e];simp [zL,zA];done)) | exact zI (by first | rfl | (rw[e];done) | (rw[e];rfl) | (rw[←zT];rfl) | (rw[e,←zT];rfl)) | apply And.intro)⟩
    ·cbv
     refine aO vG ?_
     cbv
     refine⟨Y++[⟨5,j,0,0⟩,⟨9,j,0,(b2:Int)⟩,⟨10,j,0,(b2:Int)⟩],by rw[if_pos e,o4 e'],wkY (by cbv;repeat' first | exact trivial | exact lR | exact zE om | exact zW rfl (by first | rfl | (rw[e];done) | (simp [zL,zA];done) | (rw[e];simp [zL,zA];done)) | exact zI (by first | rfl | (rw[e];done) | (rw[e];rfl) | (rw[←zT];rfl) | (rw[e,←zT];rfl)) | apply And.intro)⟩
   ·cbv
    exact⟨Y,by rw[if_neg (by rw[e];decide),List.append_nil],wkY (by cbv;repeat' first | exact trivial | exact lR | exact zE om | exact zW rfl (by first | rfl | (rw[e];done) | (simp [zL,zA];done) | (rw[e];simp [zL,zA];done)) | exact zI (by first | rfl | (rw[e];done) | (rw[e];rfl) | (rw[←zT];rfl) | (rw[e,←zT];rfl)) | apply And.intro)⟩
   have ly':Y'.length≤100000006:=by rw[hY',List.length_append];split <;> (try simp only[List.length_nil]) <;> omega
   have f':D (j+1)=Y'++(if on=true∨off=true then [] else [⟨5,j,0,0⟩,⟨6,j,0,0⟩]++(if 0<b1 then [⟨11,j,(b1:Int),0⟩] else [])++(if 0<b2 then [⟨12,j,0,(b2:Int)⟩] else [])++(if 0<b1∧0<b2 then [⟨13,j,(b1:Int),(b2:Int)⟩] else [])):=by
    rw[f,hY',hY];simp only[List.append_assoc]
   clear f hY hY' o1 o2 o3 o4 cB cP cD1 cD2 fin hX l1 ly hlen3 hlen4
   cbv
   refine z5 (fun e1=>?_) (fun e1=>?_)
   ·rw[if_pos (.inl e1),List.append_nil] at f'
    cbv
    exact⟨zH om om,j+1,(by show j+1≤us.length;omega),(by show us.length - (j+1)<us.length - j;omega),wkY (by cbv;repeat' first | exact trivial | exact lR | exact zE om | exact zW rfl (by first | rfl | (rw[f'];done) | (simp [zL,zA];done) | (rw[f'];simp [zL,zA];done)) | exact zI (by first | rfl | (rw[f'];done) | (rw[f'];rfl) | (rw[←zT];rfl) | (rw[f',←zT];rfl)) | apply And.intro)⟩
   cbv
   refine zV (fun e2=>?_) (fun e2=>?_)
   ·rw[if_pos (.inr e2),List.append_nil] at f'
    cbv
    exact⟨zH om om,j+1,(by show j+1≤us.length;omega),(by show us.length - (j+1)<us.length - j;omega),wkY (by cbv;repeat' first | exact trivial | exact lR | exact zE om | exact zW rfl (by first | rfl | (rw[f'];done) | (simp [zL,zA];done) | (rw[f'];simp [zL,zA];done)) | exact zI (by first | rfl | (rw[f'];done) | (rw[f'];rfl) | (rw[←zT];rfl) | (rw[f',←zT];rfl)) | apply And.intro)⟩
   rw[if_neg (by rw[e1,e2];decide)] at f'
   cbv
   refine aO vG ?_
   cbv
   refine zF (fun e3=>?_) (fun e3=>?_)
   ·have p1:0<b1:=by (try dsimp only [zG] at *);omega
    rw[if_pos p1] at f'
    cbv
    refine aO vG ?_
    cbv
    refine zF (fun e4=>?_) (fun e4=>?_)
    ·have p2:0<b2:=by (try dsimp only [zG] at *);omega
     rw[if_pos p2] at f'
     rw[if_pos ⟨p1,p2⟩] at f'
     cbv
     refine aO vG ?_
     cbv
     refine xM om ?_
     cbv
     refine xT om ?_
     cbv
     refine aO vG ?_
     cbv
     exact⟨zH om om,j+1,(by show j+1≤us.length;omega),(by show us.length - (j+1)<us.length - j;omega),wkY (by cbv;repeat' first | exact trivial | exact lR | exact zE om | exact zW rfl (by rw[f'];simp [zL,zA]) | exact zI (by rw[f'];simp only[←zT,List.append_assoc];rfl) | apply And.intro)⟩
    ·have p2:¬ 0<b2:=by (try dsimp only [zG] at *);omega
     rw[if_neg p2] at f'
     rw[if_neg (fun g=>p2 g.2)] at f'
     cbv
     refine xM om ?_
     cbv
     refine z9 om ?_
     cbv
     exact⟨zH om om,j+1,(by show j+1≤us.length;omega),(by show us.length - (j+1)<us.length - j;omega),wkY (by cbv;repeat' first | exact trivial | exact lR | exact zE om | exact zW rfl (by rw[f'];simp [zL,zA]) | exact zI (by rw[f'];simp only[←zT,List.append_assoc];rfl) | apply And.intro)⟩
   ·have p1:¬ 0<b1:=by (try dsimp only [zG] at *);omega
    rw[if_neg p1] at f'
    cbv
    refine zF (fun e4=>?_) (fun e4=>?_)
    ·have p2:0<b2:=by (try dsimp only [zG] at *);omega
     rw[if_pos p2] at f'
     rw[if_neg (fun g=>p1 g.1)] at f'
     cbv
     refine aO vG ?_
     cbv
     refine z6 om ?_
     cbv
     exact⟨zH om om,j+1,(by show j+1≤us.length;omega),(by show us.length - (j+1)<us.length - j;omega),wkY (by cbv;repeat' first | exact trivial | exact lR | exact zE om | exact zW rfl (by rw[f'];simp [zL,zA]) | exact zI (by rw[f'];simp only[←zT,List.append_assoc];rfl) | apply And.intro)⟩
    ·have p2:¬ 0<b2:=by (try dsimp only [zG] at *);omega
     rw[if_neg p2] at f'
     rw[if_neg (fun g=>p1 g.1)] at f'
     cbv
     refine z6 om ?_
     cbv
     exact⟨zH om om,j+1,(by show j+1≤us.length;omega),(by show us.length - (j+1)<us.length - j;omega),wkY (by cbv;repeat' first | exact trivial | exact lR | exact zE om | exact zW rfl (by rw[f'];simp [zL,zA]) | exact zI (by rw[f'];simp only[←zT,List.append_assoc];rfl) | apply And.intro)⟩
  have hN':j=us.length:=by rw[zA] at h;(try dsimp only [zG] at *);omega
  rw[hN'] at l1 ⊢
  clear l1 lD hj h hN' bsts
  generalize D us.length=X at *
  have hT:((enc rwc X).drop 0).take X.length=enc rwc X:=by rw[List.drop_zero,←zA rwc X,List.take_length]
  have hfr:0+X.length≤(enc rwc X).length:=by rw[zA];omega
  cbv
  refine qW _ (.trans (.le (ps':=⟨[(2,.osl 3 4 (fun _=>0) (fun _=>X.length))],[(3,.arr 4 (fun _=>enc rwc X))]⟩) ?_ ?_ rfl) (.frz 3 rfl rfl ?_ ?_)) rfl ?_
  ·cbv
   exact okA
  ·cbv
   exact⟨zI rfl,trivial⟩
  ·cbv
   repeat' first | exact trivial | exact⟨hfr⟩ | apply And.intro
  ·cbv
   repeat' first | exact trivial | apply And.intro
  cbv
  exact zQ hT
theorem remw (w:UInt8):nx .i64 (irem (w.toNat:Int) 8)=(((w % 8).toNat:Nat):Int):=by
 have h:=w.toNat_lt
 unfold irem nx
 have e:Int.tmod (w.toNat:Int) 8=((w.toNat % 8:Nat):Int):=(Int.ofNat_tmod _ _).symm
 rw[e,UInt8.toNat_mod]
 show IntKind.wrap .i64 ((w.toNat % 8:Nat):Int)=((w.toNat % 8:Nat):Int)
 have h8:w.toNat % 8<8:=Nat.mod_lt _ (by decide)
 generalize w.toNat % 8=k at *
 simp [IntKind.wrap,IntKind.signed,IntKind.bits]
 omega
theorem zK4 {q:Rat}{r:Row}{acc:List (Row × Rat)}{i:Nat}(hq:Fits 1 q)(h:∀ t,t∈acc→Fits (2 * i+1) t.2):∀ t,t∈plMq acc r q→Fits (2 * (i+1)+1) t.2:=fun t ht=>(zEC hq h t ht).mono (by omega)
theorem zPV (w:UInt8):Fits 1 (uD ((w % 8).toNat:Int) 4):=by
 have h:(w % 8).toNat<8:=by rw[UInt8.toNat_mod];exact Nat.mod_lt _ (by decide)
 generalize (w % 8).toNat=k at *
 have:∀ k:Fin 8,(uD (k.val:Int) 4).num.natAbs<B∧(uD (k.val:Int) 4).den<B:=by decide +kernel
 obtain⟨h1,h2⟩:=this ⟨k,h⟩
 exact⟨by simpa using h1,by simpa using h2⟩
theorem zTD (s:Scp)(ws:List UInt8)(hs:s.sz (2^20))(hn:s.q.g.n≤1000000)(hr:s.q.r.rows.length≤1000000)(hp:s.path.length≤1000000)(hu:s.q.g.us.length≤1000000)(hw:ws.length≤1000) :
  zB 17 [sv s,u8v ws] (mlv (mR (pY s.all ws []))):=by
 refine sF Tryz.f17 ?_
 have ca:=zHK s hs hn hr hp hu
 have cfr:=fun w:UInt8=>s43 ((w % 8).toNat:Int) 4 (by omega) (by have:=(w % 8).toNat_lt;omega) (by decide) (by decide) (by decide)
 have cpl:∀ (acc:List (Row × Rat)) (r:Row) (w:UInt8) (i:Nat),i≤1000→acc.length≤i→(∀ t,t∈acc→Fits (2 * i+1) t.2)→zB 69 [mlv (mR acc),rwv r,rv (zC (uD ((w % 8).toNat:Int) 4))] (mlv (mR (plMq acc r (uD ((w % 8).toNat:Int) 4)))):=fun acc r w i hi hl hf=>by
  have:=sPlM acc r (zC (uD ((w % 8).toNat:Int) 4)) ⟨by omega,fun t ht=>(hf t ht).mono (by omega)⟩ ((zU (zPV w)).mono (by decide))
  rw[zY] at this
  exact this
 have hf8:=zPV
 generalize s.all=R at *
 obtain⟨res,hres⟩:∃ x,pY R ws []=x:=⟨_,rfl⟩
 rw[hres]
 have hC0:∀ (w:UInt8),0<4:=fun _=>by decide
 obtain⟨cm,hcm⟩:∃ c,pY=c:=⟨_,rfl⟩
 have k1:∀ r rs w ws l,cm (r::rs) (w::ws) l=cm rs ws (plMq l r (uD ((w % 8).toNat:Int) 4)):=fun r rs w ws l=>by rw[←hcm];rfl
 have k2:∀ ws l,cm [] ws l=l:=fun ws l=>by rw[←hcm];unfold pY;rfl
 have k3:∀ rs l,cm rs [] l=l:=fun rs l=>by rw[←hcm];cases rs <;> rfl
 rw[hcm] at hres
 obtain⟨⟨⟨gn,us,os⟩,⟨lo,hi,rows⟩,⟨ts,c1,c2,c3⟩⟩,path,L⟩:=s
 clear hs hn hr hp hu hcm hC0
 cbv
 refine cA ca ?_
 cbv
 refine z4 (σ:=Nat × List (Row × Rat)) (fun st=>⟨[(1,u8v ws),(5,rsv R),(6,mlv (mR st.2)),(7,.int .i64 (fun _=>(st.1:Int)))],[]⟩)
  (fun st=>st.1≤R.length∧st.1≤ws.length∧cm (R.drop st.1) (ws.drop st.1) st.2=res∧st.2.length≤st.1∧∀ t,t∈st.2→Fits (2 * st.1+1) t.2) (fun st=>ws.length - st.1)
  (0,[]) ⟨Nat.zero_le _,Nat.zero_le _,hres,Nat.le_refl _,fun t ht=>absurd ht (by simp)⟩ (wkZ) ?_
 intro st hst
 obtain⟨i,acc⟩:=st
 obtain⟨h1,h2,h3,h4,h5⟩:=hst
 dsimp only at h1 h2 h3 h4 h5
 clear hres
 have done:¬ (i<R.length∧i<ws.length)→acc=res:=fun h=>by
  rw[←h3]
  by_cases e:i<R.length
  ·rw[show ws.drop i=[] from List.drop_eq_nil_of_le (by omega),k3]
  ·rw[show R.drop i=[] from List.drop_eq_nil_of_le (by omega),k2]
 cbv
 refine zR (fun e1=>?_) (fun e1=>?_)
 ·have lt1:=jR e1
  cbv
  refine zF (fun e2=>?_) (fun e2=>?_)
  ·have lt2:=jR e2
   obtain⟨r,hr⟩:=zS lt1
   obtain⟨w,hw'⟩:=zS lt2
   have c1':=cfr w
   have c2':=cpl acc r w i (by omega) h4 h5
   rw[yE hr,yE hw',k1] at h3
   have f1:=zK4 (r:=r) (hf8 w) h5
   have f2:=zED r (uD ((w % 8).toNat:Int) 4) acc
   have f3:=remw w
   have hw8:=w.toNat_lt
   clear cfr cpl hf8 k1 k2 k3 done
   generalize plMq acc r (uD ((w % 8).toNat:Int) 4)=acc' at *
   generalize zC (uD ((w % 8).toNat:Int) 4)=V at *
   cbv
   refine yF hw' c7 bR ?_
   cbv
   refine⟨wS om,?_⟩
   cbv
   refine yQ rfl (by exact⟨zE f3,lR,trivial⟩) c1' rfl ?_
   cbv
   refine zO 6 (by cbv) ?_
   cbv
   refine yF hr jG gC ?_
   cbv
   refine cA c2' ?_
   cbv
   exact⟨zH om om,(i+1,acc'),⟨by show i+1≤R.length;omega,by show i+1≤ws.length;omega,h3,by show acc'.length≤i+1;omega,f1⟩,(by show ws.length - (i+1)<ws.length - i;omega),wkZ⟩
  ·have:=done (fun h=>by have:=aG e2 h2;omega)
   subst this
   cbv
   (refine rC ?_;cbv)
   exact lR
 ·have:=done (fun h=>by have:=aG e1 h1;omega)
  subst this
  cbv
  (refine rC ?_;cbv)
  exact lR
def xr (l:List Rat):Int→Rat:=fun v=>(l[v.toNat]?).getD 0
def xJ:List F→List Rat→List Rat
 | [],l=>l
 | f::r,l=>xJ r (l++[uZ (f.at (xr l)) 0])
theorem gK:∀ (us:List F) (l:List Rat),(xJ us l).length=l.length+us.length
 | [],l=>rfl
 | f::r,l=>by
  unfold xJ
  rw[gK r]
  simp
  omega
theorem tF:∀ (us:List F) (l:List Rat) (i:Nat),i<l.length→(xJ us l)[i]?=l[i]?
 | [],l,i,_=>rfl
 | f::r,l,i,h=>by
  unfold xJ
  rw[tF r _ i (by simp;omega),List.getElem?_append_left h]
theorem zE8 {f:F}{X Y:Int→Rat}(h:∀ t,t∈f.ts→X t.1=Y t.1):f.at X=f.at Y:=by
 unfold F.at
 congr 1
 generalize f.ts=l at *
 induction l with
 | nil=>rfl
 | cons t r ih =>
  unfold evX
  rw[h t List.mem_cons_self,ih fun u hu=>h u (List.mem_cons_of_mem _ hu)]
theorem aV {l:List Rat}{i:Nat}{q:Rat}(h:l[i]?=some q):xr l i=q:=by
 unfold xr
 rw[Int.toNat_natCast,h];rfl
theorem zLC {us:List F}{l:List Rat}{f:F}(hw:f.wf (l.length:Int)):f.at (xr (xJ us l))=f.at (xr l):=zE8 fun t ht=>by
 have h:=hw.v t ht
 unfold xr
 rw[tF us l _ (by omega)]
theorem zAK:∀ {us:List F} {l:List Rat} {i:Nat} {f:F},(∀ (i:Nat) (f:F),us[i]?=some f→f.wf ((l.length+i:Nat):Int))→us[i]?=some f→(xJ us l)[l.length+i]?=some (uZ (f.at (xr (xJ us l))) 0)
 | [],l,i,f,_,h=>by simp at h
 | g::r,l,0,f,hw,h=>by
  simp only[List.getElem?_cons_zero,Option.some.injEq] at h
  subst h
  have hw0:=hw 0 g rfl
  rw[zLC (us:=g::r) hw0]
  unfold xJ
  rw[tF r _ _ (by simp)]
  simp
 | g::r,l,i+1,f,hw,h=>by
  simp only[List.getElem?_cons_succ] at h
  unfold xJ
  have:=zAK (us:=r) (l:=l++[uZ (g.at (xr l)) 0]) (i:=i) (f:=f) (fun j f' hf=>by
   have:=hw (j+1) f' (by simpa using hf)
   rw[List.length_append,List.length_singleton]
   rw[show l.length+1+j=l.length+(j+1) by omega]
   exact this) h
  rw[List.length_append,List.length_singleton] at this
  rw[show l.length+(i+1)=l.length+1+i by omega]
  exact this
def evS (f:F) (X:Int→Rat) (i:Nat):Rat:=f.c+evX X (f.ts.take i)
theorem zE0 (X:Int→Rat)(t:Int × Rat):∀ l,evX X (l++[t])=evX X l+t.2 * X t.1
 | []=>by show t.2 * X t.1+0=0+t.2 * X t.1;grind
 | u::r=>by
  rw[List.cons_append]
  unfold evX
  rw[zE0 X t r]
  grind
theorem mT (f:F)(X:Int→Rat):evS f X 0=f.c:=by unfold evS;rw[List.take_zero];show f.c+0=f.c;grind
theorem mU {f:F}{X:Int→Rat}{i:Nat}{t:Int × Rat}(h:f.ts[i]?=some t):evS f X (i+1)=evS f X i+t.2 * X t.1:=by
 unfold evS
 rw[show f.ts.take (i+1)=f.ts.take i++[t] by rw[List.take_add_one,h];rfl,zE0]
 grind
theorem iK (f:F)(X:Int→Rat):evS f X f.ts.length=f.at X:=by unfold evS;rw[List.take_length];rfl
def FX (m:Nat) (X:Int→Rat) (f:F):Prop:=∀ t,t∈f.ts→Fits m (X t.1)
theorem sX {f:F}{X:Int→Rat}{k n m:Nat}(hf:f.fl k n)(hx:FX m X f):∀ i,Fits (k+(k+m+1) * i) (evS f X i)
 | 0=>by rw[mT];exact hf.c.mono (by omega)
 | i+1=>by
  have ih:=sX hf hx i
  cases h:f.ts[i]? with
  | none =>
   have e:evS f X (i+1)=evS f X i:=by
    unfold evS
    rw[List.take_of_length_le (by have:=List.getElem?_eq_none_iff.1 h;omega),List.take_of_length_le (List.getElem?_eq_none_iff.1 h)]
   rw[e]
   exact ih.mono (by rw[Nat.mul_succ];omega)
  | some t =>
   rw[mU h]
   have hm:=List.mem_of_getElem? h
   exact (vA ih (xP (hf.t t hm) (hx t hm))).mono (by rw[Nat.mul_succ];omega)
theorem uQ {f:F}{X:Int→Rat}{k n m:Nat}(hf:f.fl k n)(hx:FX m X f):Fits (k+(k+m+1) * n) (f.at X):=by
 rw[←iK]
 exact (sX hf hx _).mono (Nat.add_le_add_left (Nat.mul_le_mul_left _ hf.len) _)
theorem gI {l:List Rat}{m:Nat}{f:F}(hw:f.wf (l.length:Int))(hl:∀ q,q∈l→Fits m q):FX m (xr l) f:=fun t ht=>by
 have h:=hw.v t ht
 obtain⟨q,hq⟩:=zS (l:=l) (i:=t.1.toNat) (by omega)
 have e:t.1=((t.1.toNat:Nat):Int):=by omega
 rw[e,aV hq]
 exact hl q (List.mem_of_getElem? hq)
theorem mN {k m:Nat}{a b:Rat}(ha:Fits k a)(hb:Fits m b):Fits (k+m) (uZ a b):=by
 unfold uZ
 split
 ·exact hb.mono (by omega)
 ·exact ha.mono (by omega)
theorem zAM:∀ {us:List F} {l:List Rat} {m:Nat},1≤m→(∀ (i:Nat) (f:F),us[i]?=some f→f.wf ((l.length+i:Nat):Int))→(∀ f,f∈us→f.fl 43 7)→(∀ q,q∈l→Fits m q)→us.length≤4→∀ q,q∈xJ us l→Fits ((m+60) * 8 ^ us.length) q
 | [],l,m,_,_,_,hl,_,q,hq=>(hl q hq).mono (by simp)
 | f::r,l,m,hm,hw,hf,hl,hu,q,hq=>by
  unfold xJ at hq
  have h0:=hw 0 f rfl
  have hv:=uQ (hf f List.mem_cons_self) (gI (l:=l) h0 hl)
  have hr:r.length+1≤4:=by simpa using hu
  have:=zAM (us:=r) (l:=l++[uZ (f.at (xr l)) 0]) (m:=8 * m+420) (by omega) (fun j f' hf'=>by
   have:=hw (j+1) f' (by simpa using hf')
   rw[List.length_append,List.length_singleton,show l.length+1+j=l.length+(j+1) by omega]
   exact this) (fun g hg=>hf g (List.mem_cons_of_mem _ hg)) (fun x hx=>by
   rcases List.mem_append.1 hx with hx | hx
   ·exact (hl x hx).mono (by omega)
   ·rw[List.mem_singleton.1 hx]
    exact (mN hv (wH (k:=1) (by decide))).mono (by omega)) (by omega) q hq
  refine this.mono ?_
  rw[List.length_cons,Nat.pow_succ]
  have e:(m+60) * (8 ^ r.length * 8)=((m+60) * 8) * 8 ^ r.length:=by rw[Nat.mul_comm (8 ^ r.length) 8,←Nat.mul_assoc]
  rw[e]
  exact Nat.mul_le_mul_right _ (by omega)
theorem tO (f:F)(l:List Rat){k n m:Nat}(hf:f.fl k n)(hw:f.wf (l.length:Int))(hl:∀ q,q∈l→Fits m q)(hk:k≤2^30)(hm:m≤2^30)(hn:k+(k+m+1) * n≤2^30)(hn2:n≤2^30)(hll:l.length<2^40) :
  zB 32 [av (fA f),rlv (l.map zC)] (.tup [rv (zC (f.at (xr l))),.int .i64 (fun _=>0)]):=by
 refine sF Tryz.f32 ?_
 have fx:=gI hw hl
 have hi:∀ (i:Nat) t,f.ts[i]?=some t→∃ j:Nat,t.1=(j:Int)∧j<l.length∧(l.map zC)[j]?=some (zC (xr l t.1)):=fun i t h=>by
  have hv:=hw.v t (List.mem_of_getElem? h)
  obtain⟨q,hq⟩:=zS (l:=l) (i:=t.1.toNat) (by omega)
  have e:t.1=((t.1.toNat:Nat):Int):=by omega
  refine⟨t.1.toNat,e,by omega,?_⟩
  rw[List.getElem?_map,hq]
  rw[e,aV hq]
  rfl
 have cm:∀ t,t∈f.ts→zB 57 [rv (zC t.2),rv (zC (xr l t.1))] (rv (zC (t.2 * xr l t.1))):=fun t ht=>by
  have:=s77 (zC t.2) (zC (xr l t.1)) ((zU (hf.t t ht)).mono (by omega)) ((zU (fx t ht)).mono (by omega))
  rw[zY,zY] at this
  exact this
 have ca:∀ (i:Nat) t,f.ts[i]?=some t→zB 52 [rv (zC (evS f (xr l) i)),rv (zC (t.2 * xr l t.1))] (rv (zC (evS f (xr l) (i+1)))):=fun i t h=>by
  have hm':=List.mem_of_getElem? h
  have hlt:=(List.getElem?_eq_some_iff.1 h).1
  have hle:=hf.len
  have e:(k+m+1) * i≤(k+m+1) * n:=Nat.mul_le_mul_left _ (by omega)
  have:=s44 (zC (evS f (xr l) i)) (zC (t.2 * xr l t.1)) ((zU (sX hf fx i)).mono (by omega)) ((zU (xP (hf.t t hm') (fx t hm'))).mono (by
   have:(k+m+1) * 1≤(k+m+1) * n:=Nat.mul_le_mul_left _ (by omega)
   omega))
  rw[zY,zY,←mU h] at this
  exact this
 have hlen:f.ts.length≤2^30:=Nat.le_trans hf.len hn2
 have e0:=mT f (xr l)
 have e9:=iK f (xr l)
 obtain⟨V,hV⟩:∃ V:Nat→R,∀ i,zC (evS f (xr l) i)=V i:=⟨_,fun _=>rfl⟩
 have hav:av (fA f)=.agg [tsv (tR f.ts),.bool (fun _=>(V 0).neg),nat (V 0).num,nat (V 0).den]:=by rw[←hV,e0];rfl
 rw[←e9,hV,hav]
 simp only[hV] at ca
 have hT:∀ (i:Nat) t,f.ts[i]?=some t→(tR f.ts)[i]?=some (t.1,zC t.2):=fun i t h=>by simp [tR,List.getElem?_map,h]
 have hTl:(tR f.ts).length=f.ts.length:=wF _
 have hxl:(l.map zC).length=l.length:=List.length_map ..
 have facts:∀ i,i<f.ts.length→∃ (z:Int) (v:Nat) (c x y:R),z=(v:Int)∧(tR f.ts)[i]?=some (z,c)∧(l.map zC)[v]?=some x∧v<(l.map zC).length∧zB 57 [rv c,rv x] (rv y)∧zB 52 [rv (V i),rv y] (rv (V (i+1))):=fun i h=>by
  obtain⟨t,ht⟩:=zS h
  obtain⟨j,h1,h2,h3⟩:=hi i t ht
  exact⟨t.1,j,zC t.2,_,_,h1,hT i t ht,h3,by rw[hxl];exact h2,cm t (List.mem_of_getElem? ht),ca i t ht⟩
 clear hi cm ca hT hav hV e0 e9 fx hl hw hf
 generalize f.ts.length=N at *
 generalize tR f.ts=T at *
 generalize l.map zC=X at *
 cbv
 refine z4 (σ:=Nat) (fun i=>⟨[(1,rlv X),(2,.ptr 2 0),(4,.ptr 4 0),(6,.ptr 6 0),(7,.int .i64 (fun _=>(i:Int)))],
   [(2,.box [tsv T,.bool (fun _=>(V 0).neg),nat (V 0).num,nat (V 0).den]),(4,.box [.ff,.nil,.nil]),(6,.box [.bool (fun _=>(V i).neg),nat (V i).num,nat (V i).den])]⟩)
  (fun i=>i≤N) (fun i=>N - i) 0 (Nat.zero_le _) (wkZ) ?_
 intro i hi'
 cbv
 refine zF (fun h=>?_) (fun h=>?_)
 ·have hlt:i<N:=by rw[zA,hTl] at h;(try dsimp only [zG] at *);omega
  obtain⟨z,v,c,x,y,g0,g1,g2,g3,c1,c2⟩:=facts i hlt
  clear facts
  generalize hV1:V (i+1)=V1 at *
  generalize hVi:V i=Vi at *
  cbv
  refine yF g1 y4 y6 ?_
  cbv
  refine z6 om ?_
  cbv
  refine z9 (by rw[zA];(try dsimp only [zG] at *);omega) ?_
  cbv
  refine zO 10 (by cbv) ?_
  cbv
  refine xC g2 g0 yU xE ?_
  cbv
  refine dA c1 ?_
  cbv
  refine dA c2 ?_
  cbv
  refine⟨zH om om,i+1,(by show i+1≤N;omega),(by show N - (i+1)<N - i;omega),.le okZ (by cbv;rw[hV1];repeat' first | exact trivial | exact lR | apply And.intro) rfl⟩
 ·have hN':i=N:=by rw[zA,hTl] at h;(try dsimp only [zG] at *);omega
  rw[hN']
  cbv
  (refine rC ?_;cbv)
  exact okA
theorem zSB (raw:List UInt8)(hr:raw.length<2^38):zB 14 [u8v raw] (sv (fdS raw).bounded):=by
 refine sF Tryz.f14 ?_
 have c1:=eH raw hr
 have c2:=zN3 raw
 generalize (fdS raw).bounded=B at *
 generalize fdS raw=S at *
 cbv
 refine cA c1 ?_
 cbv
 refine cA c2 ?_
 cbv
 (refine rC ?_;cbv)
 exact okA
theorem rU8 (w:World):ElR w 5 1 (fun _=>True) u8c :=
 (zJN (k:=.u8) Tryz.underlying5 (by kernel_rfl)).map (fun n=>UInt8.ofNat n.toNat) (fun n h=>by
  have:0≤n∧n≤255:=by simpa [Lit.wf,IntKind.min,IntKind.max,IntKind.signed,IntKind.bits] using h
  have e:((UInt8.ofNat n.toNat).toNat:Int)=n:=by
   rw[UInt8.toNat_ofNat_of_lt' (by show n.toNat<256;omega)]
   omega
  show [D.int .u8 _]=[D.int .u8 _]
  rw[e]) (fun _ _=>trivial)
theorem dD (w:World):ElR w 22 1 (fun l=>l.length≤maxLen) (fun l=>[u8v l]) :=
 (iL (k:=1) Tryz.underlying22 (by kernel_rfl) (by decide) (rU8 w)).map (fun l=>l) (fun _ _=>rfl) (fun _ h=>h.2)
theorem rI8 (w:World):ElR w 120 1 (fun z:Int=>-128≤z∧z≤127) (fun z=>[.int .i8 (fun _=>z)]) :=
 (zJN (k:=.i8) Tryz.underlying120 (by kernel_rfl)).map (fun n=>n) (fun _ _=>rfl) (fun n h=>by simpa [Lit.wf,IntKind.min,IntKind.max,IntKind.signed,IntKind.bits] using h)
theorem zSY (w:World):ElR w 87 4 (fun _=>True) tc :=
 (elS2 (k0:=1) (k1:=3) Tryz.underlying87 (by kernel_rfl) rfl rfl (rInt w) (rRat w)).map (fun a=>(a.1,a.2)) (fun _ _=>rfl) (fun _ _=>trivial)
theorem zRF (w:World):ElR w 36 1 (fun l=>l.length≤maxLen) (fun l=>[tsv l]) :=
 (iL (k:=4) Tryz.underlying36 (by kernel_rfl) (by decide) (zSY w)).map (fun l=>l) (fun _ _=>rfl) (fun _ h=>h.2)
theorem rAff (w:World):ElR w 38 4 (fun f:A=>f.ts.length≤maxLen) ac :=
 (elS2 (k0:=1) (k1:=3) Tryz.underlying38 (by kernel_rfl) rfl rfl (zRF w) (rRat w)).map (fun a=>⟨a.1,a.2⟩) (fun _ _=>rfl) (fun _ h=>h.1)
theorem rDec (w:World):ElR w 28 5 (fun _=>True) dc :=
 (elS3 (k0:=1) (k1:=1) (k2:=3) Tryz.underlying28 (by kernel_rfl) rfl rfl rfl (rInt w) (rInt w) (rRat w)).map (fun a=>⟨a.1,a.2.1,a.2.2⟩) (fun _ _=>rfl) (fun _ _=>trivial)
theorem zDT {w:World}{cs:Array Value}{pv:List PV}(hf:yT uT pv=true)(h:Cs w cs.toList (y8 pv)):Rep w (InW w) (fun _=>none) (.agg cs) (.agg pv):=by
 have hl:=h.len
 rw[uF] at hl
 refine .agg (by simpa using hl) fun j hj=>?_
 have:=h.get j (by rw[uF];exact hj)
 rw[kX] at this
 refine .c (xH rfl hf j) ?_
 have e:cs.toList.getD j undef=cs.getD j undef:=by simp [List.getD_eq_getElem?_getD]
 rw[←e]
 exact this.1
end Go.Proofs.YtgcpehdkdnkgeaaGreat
