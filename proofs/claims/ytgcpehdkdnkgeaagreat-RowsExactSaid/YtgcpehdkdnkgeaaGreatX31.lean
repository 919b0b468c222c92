/- A part of the proof: SpU, RtA, FdA, FdB. -/
import Derived.Test.YtgcpehdkdnkgeaaGreatX30
import Derived.Test.YtgcpehdkdnkgeaaGreatX24
import Derived.Test.YtgcpehdkdnkgeaaGreatX23
import Derived.Test.YtgcpehdkdnkgeaaGreatX25
import Derived.Test.YtgcpehdkdnkgeaaGreatX28
import Derived.Test.YtgcpehdkdnkgeaaGreatX29
set_option linter.all false
namespace Go.Proofs.YtgcpehdkdnkgeaaGreat
open Go
set_option maxRecDepth 100000
set_option maxHeartbeats 4000000
def evX (X:Int→Rat):List (Int × Rat)→Rat
 | []=>0
 | t::r=>t.2 * X t.1+evX X r
def F.at (f:F) (X:Int→Rat):Rat:=f.c+evX X f.ts
theorem oV (X:Int→Rat)(v:Int)(q:Rat)(r):evX X (pc v q r)=q * X v+evX X r:=by
 unfold pc
 split
 ·rename_i h;rw[h];grind
 ·rfl
theorem rR (X:Int→Rat)(c:Rat):∀ (a b:List (Int × Rat)),evX X (mrg c a b)=evX X a+evX X b * c
 | [],[]=>by rw[mrg];simp only[evX];grind
 | a::aa,[]=>by rw[mrg,oV,rR X c aa []];simp only[evX];grind
 | [],b::bb=>by rw[mrg,oV,rR X c [] bb];simp only[evX];grind
 | a::aa,b::bb=>by
  rw[mrg]
  split
  ·rw[oV,rR X c aa (b::bb)];simp only[evX];grind
  ·split
   ·rw[oV,rR X c (a::aa) bb];simp only[evX];grind
   ·have:a.1=b.1:=by omega
    rw[oV,rR X c aa bb];simp only[evX,this];grind
termination_by a b=>a.length+b.length
theorem zAD (X:Int→Rat)(f g:F)(c:Rat):(f.merge g c).at X=f.at X+g.at X * c:=by
 show f.c+g.c * c+evX X (mrg c f.ts g.ts)=f.c+evX X f.ts+(g.c+evX X g.ts) * c
 rw[rR];grind
theorem zDQ (X:Int→Rat)(f g:F):(f.add g).at X=f.at X+g.at X:=by unfold F.add;rw[zAD];grind
theorem dS (X:Int→Rat)(f g:F):(f.sub g).at X=f.at X - g.at X:=by unfold F.sub;rw[zAD];grind
theorem zCS (X:Int→Rat):F.zero.at X=0:=by show (0:Rat)+0=0;grind
theorem dT (X:Int→Rat)(f:F)(c:Rat):(f.scale c).at X=f.at X * c:=by
 unfold F.scale;rw[zAD];show F.zero.at X+_=_;rw[zCS];grind
theorem gX (X:Int→Rat)(v:Int):(F.var v).at X=X v:=by show (0:Rat)+(1 * X v+0)=X v;grind
theorem s6 (X:Int→Rat)(q:Rat):(F.num q).at X=q:=by show q+0=q;grind
structure Pt (s:Scp) (X:Int→Rat):Prop where
 lo:∀ (i:Nat) x,s.q.r.lo[i]?=some x→x.q≤X i
 hi:∀ (i:Nat) x,s.q.r.hi[i]?=some x→X i≤x.q
 rows:∀ (i:Nat) f,s.q.r.rows[i]?=some f→0≤f.f.at X
 un:∀ (i:Nat) p,s.q.g.us[i]?=some p→0≤X (s.q.g.n+i)∧p.f.at X≤X (s.q.g.n+i)∧(X (s.q.g.n+i)=0∨X (s.q.g.n+i)=p.f.at X)
 ab:∀ d,d∈s.path→d.fits s.q=true→d.k=3→d.x.q≤X d.i
 be:∀ d,d∈s.path→d.fits s.q=true→d.k=4→X d.i≤d.x.q
 on:∀ d,d∈s.path→d.fits s.q=true→d.k=1→∀ (i:Nat) p,d.i=i→s.q.g.us[i]?=some p→0≤p.f.at X
 off:∀ d,d∈s.path→d.fits s.q=true→d.k=2→∀ (i:Nat) p,d.i=i→s.q.g.us[i]?=some p→p.f.at X≤0
def LemH (s:Scp) (X:Int→Rat) (m:Lem):Prop:=∀ (i:Nat) p,m.u=i→s.q.g.us[i]?=some p→if m.up=true then p.f.at X≤m.v.q else m.v.q≤p.f.at X
def zBP (s:Scp) (X:Int→Rat):Prop:=∀ m,m∈s.lems→LemH s X m
theorem zHU {s:Scp}{n unit:Int}{up:Bool}{v:Rat}(h:s.lem n unit up=some v):∃ m,m∈s.lems∧m.u=unit∧m.up=up∧m.v.q=v:=by
 unfold Scp.lem at h
 split at h
 ·split at h
  ·rename_i m hm
   split at h
   ·rename_i g
    exact⟨m,List.mem_of_getElem? hm,g.1,g.2,Option.some.inj h⟩
   ·cases h
  ·cases h
 ·cases h
theorem zCG {s:Scp}{X:Int→Rat}(hl:zBP s X){n:Int}{i:Nat}{v:Rat}{p:A}(hp:s.q.g.us[i]?=some p)(h:s.lem n i false=some v):v≤p.f.at X:=by
 obtain⟨m,h1,h2,h3,h4⟩:=zHU h
 have:=hl m h1 i p h2 hp
 rw[h3,h4] at this
 simpa using this
theorem zGR {s:Scp}{X:Int→Rat}(hl:zBP s X){n:Int}{i:Nat}{v:Rat}{p:A}(hp:s.q.g.us[i]?=some p)(h:s.lem n i true=some v):p.f.at X≤v:=by
 obtain⟨m,h1,h2,h3,h4⟩:=zHU h
 have:=hl m h1 i p h2 hp
 rw[h3,h4] at this
 simpa using this
theorem zH7 {s:Scp}{k u:Int}(h:s.dcd k u=true):∃ d,d∈s.path∧d.k=k∧d.i=u∧d.fits s.q=true:=by
 unfold Scp.dcd at h
 obtain⟨d,h1,h2⟩:=List.any_eq_true.1 h
 simp only[Bool.and_eq_true,decide_eq_true_eq] at h2
 exact⟨d,h1,h2.1,h2.2.1,h2.2.2⟩
theorem zPS {s:Scp}{X:Int→Rat}(hP:Pt s X)(hl:zBP s X){r:Row}{i:Nat}{p:A}(hi:r.i=i)(hp:s.q.g.us[i]?=some p)(h:onB s r ((s.lem r.lo r.i false).getD 0) (s.lem r.lo r.i false).isSome=true):0≤p.f.at X:=by
 unfold onB at h
 simp only[Bool.and_eq_true,Bool.or_eq_true,decide_eq_true_eq] at h
 rcases h.2 with ⟨_,h2⟩ | ⟨h1,h2⟩
 ·obtain⟨d,g1,g2,g3,g4⟩:=zH7 h2
  exact hP.on d g1 g4 g2 i p (by omega) hp
 ·obtain⟨v,hv⟩:=Option.isSome_iff_exists.1 h1
  rw[hv] at h2
  rw[hi] at hv
  have:=zCG hl hp hv
  have h3:¬ v<0:=fun g=>by have:=zBY.2 g;simp only[Option.getD_some] at h2;omega
  grind
theorem zL2 {s:Scp}{X:Int→Rat}(hP:Pt s X)(hl:zBP s X){r:Row}{i:Nat}{p:A}(hi:r.i=i)(hp:s.q.g.us[i]?=some p)(h:sI s r ((s.lem r.hi r.i true).getD 0) (s.lem r.hi r.i true).isSome=true):p.f.at X≤0:=by
 unfold sI at h
 simp only[Bool.and_eq_true,Bool.or_eq_true,decide_eq_true_eq] at h
 rcases h.2 with ⟨_,h2⟩ | ⟨h1,h2⟩
 ·obtain⟨d,g1,g2,g3,g4⟩:=zH7 h2
  exact hP.off d g1 g4 g2 i p (by omega) hp
 ·obtain⟨v,hv⟩:=Option.isSome_iff_exists.1 h1
  rw[hv] at h2
  rw[hi] at hv
  have:=zGR hl hp hv
  have h3:¬ 0<v:=fun g=>by have:=iC.2 g;simp only[Option.getD_some] at h2;omega
  grind
theorem zQT {p v l u:Rat}(h1:l≤p)(h2:p≤u)(h3:l<0)(h4:0<u)(h5:v=0∨v=p)(h6:0≤v)(h7:p≤v):0≤(p - l) * u - v * (u - l):=by
 rcases h5 with rfl | rfl
 ·have:=Rat.mul_nonneg (a:=p - l) (b:=u) (by grind) (by grind)
  grind
 ·have:=Rat.mul_nonneg (a:=- l) (b:=u - v) (by grind) (by grind)
  grind
theorem zJT {s:Scp}{X:Int→Rat}(hP:Pt s X)(hl:zBP s X){r:Row}{f:F}(h:s.fUn r=some f):0≤f.at X:=by
 have two:∀ {c:Prop} [Decidable c] {x:F},(if c then some x else none)=some f→c∧x=f:=fun h=>by
  split at h
  ·rename_i g;exact⟨g,Option.some.inj h⟩
  ·cases h
 unfold Scp.fUn at h
 by_cases h0:0≤r.i∧r.i<s.q.g.us.length
 rotate_left
 ·rw[if_neg h0] at h;cases h
 rw[if_pos h0] at h
 cases hp:s.q.g.us[r.i.toNat]? with
 | none=>rw[hp] at h;cases h
 | some p =>
 rw[hp] at h
 dsimp only at h
 have hi:r.i=(r.i.toNat:Nat):=by omega
 obtain⟨u1,u2,u3⟩:=hP.un _ p hp
 rw[←hi] at u1 u2 u3
 unfold unF at h
 by_cases h5:r.k=5
 ·rw[if_pos h5] at h;obtain⟨_,rfl⟩:=two h;rw[gX];exact u1
 rw[if_neg h5] at h
 by_cases h6:r.k=6
 ·rw[if_pos h6] at h;obtain⟨_,rfl⟩:=two h;rw[dS,gX];grind
 rw[if_neg h6] at h
 by_cases h7:r.k=7
 ·rw[if_pos h7] at h;obtain⟨g,rfl⟩:=two h
  have:=zPS hP hl hi hp g
  rw[zDQ,zCS];grind
 rw[if_neg h7] at h
 by_cases h8:r.k=8
 ·rw[if_pos h8] at h;obtain⟨g,rfl⟩:=two h
  have:=zPS hP hl hi hp g
  rw[dS,gX];grind
 rw[if_neg h8] at h
 by_cases h9:r.k=9
 ·rw[if_pos h9] at h;obtain⟨g,rfl⟩:=two h
  have:=zL2 hP hl hi hp g
  rw[dT];grind
 rw[if_neg h9] at h
 by_cases h10:r.k=10
 ·rw[if_pos h10] at h;obtain⟨g,rfl⟩:=two h
  have:=zL2 hP hl hi hp g
  rw[dT,gX];grind
 rw[if_neg h10] at h
 by_cases h11:r.k=11
 ·rw[if_pos h11] at h;obtain⟨g,rfl⟩:=two h
  obtain⟨v,hv⟩:=Option.isSome_iff_exists.1 g.1
  rw[hv]
  rw[hi] at hv
  have:=zCG hl hp hv
  rw[dS,s6,Option.getD_some];grind
 rw[if_neg h11] at h
 by_cases h12:r.k=12
 ·rw[if_pos h12] at h;obtain⟨g,rfl⟩:=two h
  obtain⟨v,hv⟩:=Option.isSome_iff_exists.1 g.1
  rw[hv]
  rw[hi] at hv
  have:=zGR hl hp hv
  rw[dS,s6,Option.getD_some];grind
 rw[if_neg h12] at h
 by_cases h13:r.k=13
 ·rw[if_pos h13] at h;obtain⟨g,rfl⟩:=two h
  obtain⟨g1,g2,g3,g4⟩:=g
  obtain⟨l,hv⟩:=Option.isSome_iff_exists.1 g1
  obtain⟨u,hw⟩:=Option.isSome_iff_exists.1 g2
  rw[hv,Option.getD_some] at g3 ⊢
  rw[hw,Option.getD_some] at g4 ⊢
  rw[hi] at hv hw
  have e1:=zCG hl hp hv
  have e2:=zGR hl hp hw
  have:=zQT e1 e2 (zBY.1 g3) (iC.1 g4) u3 u1 u2
  rw[dS,dT,dT,dS,s6,gX];exact this
 rw[if_neg h13] at h
 cases h
theorem zKP {s:Scp}{X:Int→Rat}(hP:Pt s X){r:Row}{f:F}(h:s.fIn r=some f):0≤f.at X:=by
 unfold Scp.fIn at h
 by_cases h0:r.plain=true∧0≤r.i
 rotate_left
 ·rw[if_neg h0] at h;cases h
 rw[if_pos h0] at h
 have hi:r.i=(r.i.toNat:Nat):=by omega
 by_cases h1:r.k=1
 ·rw[if_pos h1] at h
  obtain⟨y,hy,rfl⟩:=Option.map_eq_some_iff.1 h
  have:=hP.lo _ y hy
  rw[←hi] at this
  rw[dS,gX,s6];grind
 rw[if_neg h1] at h
 by_cases h2:r.k=2
 ·rw[if_pos h2] at h
  obtain⟨y,hy,rfl⟩:=Option.map_eq_some_iff.1 h
  have:=hP.hi _ y hy
  rw[←hi] at this
  rw[dS,gX,s6];grind
 rw[if_neg h2] at h
 by_cases h3:r.k=3
 ·rw[if_pos h3] at h
  obtain⟨y,hy,rfl⟩:=Option.map_eq_some_iff.1 h
  have:=hP.rows _ y hy
  rw[zDQ,zCS];grind
 rw[if_neg h3] at h
 by_cases h4:r.k=4
 ·rw[if_pos h4] at h
  cases hd:s.path[r.i.toNat]? with
  | none=>rw[hd] at h;cases h
  | some d =>
   rw[hd] at h
   dsimp only at h
   have hm:=List.mem_of_getElem? hd
   by_cases hf:d.fits s.q=true
   ·rw[if_pos hf] at h
    by_cases k3:d.k=3
    ·rw[if_pos k3] at h
     obtain rfl:=Option.some.inj h
     have:=hP.ab d hm hf k3
     rw[dS,gX,s6];grind
    ·rw[if_neg k3] at h
     by_cases k4:d.k=4
     ·rw[if_pos k4] at h
      obtain rfl:=Option.some.inj h
      have:=hP.be d hm hf k4
      rw[dT,dS,gX,s6];grind
     ·rw[if_neg k4] at h;cases h
   ·rw[if_neg hf] at h;cases h
 rw[if_neg h4] at h
 cases h
theorem zIQ {s:Scp}{X:Int→Rat}(hP:Pt s X)(hl:zBP s X){r:Row}{f:F}(h:s.fm r=some f):0≤f.at X:=by
 unfold Scp.fm at h
 split at h
 ·cases h
 ·split at h
  ·exact zKP hP h
  ·exact zJT hP hl h
theorem zHJ (s:Scp)(n unit:Int)(up:Bool)(hs:Lsz (2^32) s.lems):zB 190 [sv s,.int .i64 (fun _=>n),.int .i64 (fun _=>unit),.bool (fun _=>up)] (.tup [rv (zC ((s.lem n unit up).getD 0)),.bool (fun _=>(s.lem n unit up).isSome)]):=by
 refine sF Tryz.f190 ?_
 have hno:=fun h=>zGS (s:=s) (n:=n) (unit:=unit) (up:=up) h
 have hat:=fun (m:Lem) h1 h2 h3=>zGT (s:=s) (n:=n) (unit:=unit) (up:=up) (m:=m) h1 h2 h3
 have hsl:=hs.len
 have hss:=hs.sz
 generalize s.lem n unit up=o at *
 obtain⟨⟨⟨gn,us,os⟩,⟨lo,hi,rows⟩,⟨ts,c1,c2,c3⟩⟩,path,lems⟩:=s
 simp only at hno hat hsl hss
 have fin:∀ (W:R) (b:Bool),o=none→W=zC (o.getD 0)∧b=o.isSome→W=R0∧b=false:=fun W b h1 h2=>by
  rw[h1] at h2
  exact⟨by rw[h2.1];exact v5,h2.2⟩
 obtain⟨W,hW⟩:∃ W,W=zC (o.getD 0):=⟨_,rfl⟩
 obtain⟨b,hb⟩:∃ b,b=o.isSome:=⟨_,rfl⟩
 rw[←hW,←hb]
 have fin':o=none→W=R0∧b=false:=fun h=>fin W b h ⟨hW,hb⟩
 have fin2:∀ q,o=some q→W=zC q∧b=true:=fun q h=>by rw[h] at hW hb;exact⟨hW,hb⟩
 clear fin hW hb
 obtain⟨W1,W2,W3⟩:=W
 have fin3:o=none→W1=false∧W2=[]∧W3=[]∧b=false:=fun h=>by
  obtain⟨h1,h2⟩:=fin' h
  simp only[R.mk.injEq] at h1
  exact⟨h1.1,h1.2.1,h1.2.2,h2⟩
 clear fin'
 cbv
 refine zR (fun e1=>?_) (fun e1=>?_)
 ·cbv
  obtain⟨g1,g2,g3,g4⟩:=fin3 (hno (by omega))
  subst g1 g2 g3 g4
  (refine rC ?_;cbv)
  exact okA
 cbv
 refine zR (fun e2=>?_) (fun e2=>?_)
 ·cbv
  obtain⟨g1,g2,g3,g4⟩:=fin3 (hno (by rw[zA] at e2;(try dsimp only [zG] at *);omega))
  subst g1 g2 g3 g4
  (refine rC ?_;cbv)
  exact okA
 cbv
 rw[zA] at e2
 obtain⟨m,hm⟩:∃ m,lems[(n - 1).toNat]?=some m:=zS om
 have hat':=hat m (by omega) om hm
 have hms:=hss m (List.mem_of_getElem? hm)
 have cc:=s47 m.v hms
 have idx:∀ {K:List PV→Prop},K (lc m)→IdxOk 6 (fun _=>enc lc lems) (fun _=>n - 1) K:=fun hK=>xB (l:=lems) (n - 1).toNat (by omega) om vD uO (fun m' hm'=>by rw[hm] at hm';cases hm';exact hK)
 generalize hq:m.v.q=q at *
 obtain⟨mu,mup,⟨v1,v2,v3⟩,mpf⟩:=m
 simp only at hat'
 clear hat hno hq
 generalize hwq:zC q=wq at *
 refine⟨zH om om,idx ?_⟩
 cbv
 refine zR (fun e3=>?_) (fun e3=>?_)
 ·cbv
  refine⟨zH om om,idx ?_⟩
  cbv
  refine zF (fun e4=>?_) (fun e4=>?_)
  ·cbv
   obtain⟨g1,g2⟩:=fin2 q (by rw[hat',if_pos ⟨e3,e4⟩])
   rw[hwq] at g1
   subst g1 g2
   refine⟨zH om om,idx ?_⟩
   cbv
   refine cA cc ?_
   cbv
   (refine rC ?_;cbv)
   exact okA
  ·cbv
   obtain⟨g1,g2,g3,g4⟩:=fin3 (by rw[hat',if_neg (fun h=>e4 h.2)])
   subst g1 g2 g3 g4
   (refine rC ?_;cbv)
   exact okA
 ·cbv
  obtain⟨g1,g2,g3,g4⟩:=fin3 (by rw[hat',if_neg (fun h=>e3 h.1)])
  subst g1 g2 g3 g4
  (refine rC ?_;cbv)
  exact okA
theorem bZ (s:Scp)(kind unit:Int)(hs:Dsz (2^32) s.path):zB 85 [sv s,.int .i64 (fun _=>kind),.int .i64 (fun _=>unit)] (.bool (fun _=>s.dcd kind unit)):=by
 refine sF Tryz.f85 ?_
 have cf:∀ d,d∈s.path→zB 97 [qv s.q,dv d] (.bool (fun _=>d.fits s.q)):=fun d h=>zGK s.q d (hs.sz d h)
 have hpl:=hs.len
 generalize hr:s.dcd kind unit=r
 have hr0:r=(s.path.drop 0).any (fun d=>decide (d.k=kind) && (decide (d.i=unit) && d.fits s.q)):=hr.symm
 obtain⟨ft,hft⟩:∃ ft:Dec→Bool,∀ d,ft d=d.fits s.q:=⟨_,fun _=>rfl⟩
 simp only[←hft] at cf hr0
 obtain⟨P,hP⟩:∃ P:Dec→Bool,(fun d=>decide (d.k=kind) && (decide (d.i=unit) && ft d))=P:=⟨_,rfl⟩
 rw[hP] at hr0
 have hPd:∀ d,P d=(decide (d.k=kind) && (decide (d.i=unit) && ft d)):=fun d=>by rw[←hP]
 clear hP hft hr hs
 cbv
 refine z4 (σ:=Nat) (fun i=>⟨[(1,.int .i64 (fun _=>kind)),(2,.int .i64 (fun _=>unit)),(3,.ptr 3 0),(7,.int .i64 (fun _=>(i:Int)))],[(3,.box (sc s))]⟩) (fun i=>i≤s.path.length∧r=(s.path.drop i).any P) (fun i=>s.path.length - i) 0 ⟨by omega,hr0⟩ (wkZ) ?_
 clear hr0
 intro i hi
 obtain⟨h1,h2⟩:=hi
 cbv
 refine zF (fun h5=>?_) (fun h5=>?_)
 ·have hlt:=jR h5
  obtain⟨d,hd⟩:=zS hlt
  have cv:=cf d (List.mem_of_getElem? hd)
  rw[yE hd,List.any_cons,hPd] at h2
  generalize ft d=fd at *
  generalize hrest:(s.path.drop (i+1)).any P=rest at *
  cbv
  refine zO 28 (by cbv) ?_
  cbv
  refine yF hd cH s3 ?_
  cbv
  refine zR (fun e1=>?_) (fun e1=>?_)
  rotate_left
  ·rw[decide_eq_false e1,Bool.false_and,Bool.false_or] at h2
   cbv
   exact⟨zH om om,i+1,⟨om,by rw[h2,hrest]⟩,om,wkZ⟩
  rw[decide_eq_true e1,Bool.true_and] at h2
  cbv
  refine yF hd cH s3 ?_
  cbv
  refine zR (fun e2=>?_) (fun e2=>?_)
  rotate_left
  ·rw[decide_eq_false e2,Bool.false_and,Bool.false_or] at h2
   cbv
   exact⟨zH om om,i+1,⟨om,by rw[h2,hrest]⟩,om,wkZ⟩
  rw[decide_eq_true e2,Bool.true_and] at h2
  cbv
  refine yF hd cH s3 ?_
  cbv
  refine dA cv ?_
  cbv
  refine zV (fun e3=>?_) (fun e3=>?_)
  ·rw[e3,Bool.true_or] at h2
   cbv
   (refine rC ?_;cbv)
   exact z7 h2
  ·rw[e3,Bool.false_or] at h2
   cbv
   exact⟨zH om om,i+1,⟨om,by rw[h2,hrest]⟩,om,wkZ⟩
 ·have he:=aG h5 h1
  rw[he,List.drop_length] at h2
  have h2':r=false:=h2
  cbv
  (refine rC ?_;cbv)
  exact zM h2'
theorem zPP {f g:F}(hf:Cn f.ts)(hg:Cn g.ts){k n k' n':Nat}(h1:f.fl k n)(h2:g.fl k' n')(hk:k≤2^26)(hk':k'≤2^26)(hn:n≤2^35)(hn':n'≤2^35):zB 58 [fv f,fv g] (fv (f.add g)):=by
 have h:=zLT f.ts (zC f.c) (fA g) hf (by rw[show (fA g).ts=tR g.ts from rfl,zF3];exact hg) ⟨by have:=h1.len;omega,fun t ht=>(h1.t t ht).mono (by omega)⟩ ((zU h1.c).mono (by omega)) ((sS h2 (by omega)).mono (by omega)) (by have:=h1.len;have:=h2.len;rw[show (fA g).ts=tR g.ts from rfl,wF];omega)
 rw[vE,zY] at h
 exact h
theorem zFC {f g:F}(hf:Cn f.ts)(hg:Cn g.ts){k n k' n':Nat}(h1:f.fl k n)(h2:g.fl k' n')(hk:k≤2^26)(hk':k'≤2^26)(hn:n≤2^35)(hn':n'≤2^35):zB 124 [fv f,fv g] (fv (f.sub g)):=by
 have h:=eF f.ts (zC f.c) (fA g) hf (by rw[show (fA g).ts=tR g.ts from rfl,zF3];exact hg) ⟨by have:=h1.len;omega,fun t ht=>(h1.t t ht).mono (by omega)⟩ ((zU h1.c).mono (by omega)) ((sS h2 (by omega)).mono (by omega)) (by have:=h1.len;have:=h2.len;rw[show (fA g).ts=tR g.ts from rfl,wF];omega)
 rw[vE,zY] at h
 exact h
theorem b5 {f:F}{q:Rat}{k n m:Nat}(h1:f.fl k n)(hq:Fits m q)(hk:k≤2^31)(hn:n≤2^35)(hm:m≤2^31):zB 59 [fv f,rv (zC q)] (fv (f.scale q)):=by
 have h:=eG (fA f) (zC q) ((sS h1 (by omega)).mono (by omega)) ((zU hq).mono (by omega))
 rw[vE,zY] at h
 exact h
theorem zJK {x:R}(h:x.ok=true):zC x.q=x:=(of_decide_eq_true h).symm
theorem zDY {vars:Int}:∀ {ts:List (Int × R)} {p:Int},vT vars p ts=true→tR (tq ts)=ts∧Cn (tq ts)∧∀ t,t∈tq ts→p<t.1
 | [],p,_=>⟨rfl,Cn.nil,fun t h=>absurd h (by simp [tq])⟩
 | t::r,p,h=>by
  rw[iA] at h
  simp only[Bool.and_eq_true,decide_eq_true_eq] at h
  obtain⟨⟨⟨⟨⟨h1,h2⟩,h3⟩,h4⟩,h5⟩,h6⟩:=h
  obtain⟨g1,g2,g3⟩:=zDY h6
  refine⟨?_,?_,fun u hu=>?_⟩
  ·show (t.1,zC t.2.q)::tR (tq r)=t::r
   rw[g1,zJK h5]
  ·exact Cn.cons (t:=(t.1,t.2.q)) g2 g3 h4
  ·rcases List.mem_cons.1 hu with rfl | hu
   ·exact h3
   ·have:=g3 u hu;omega
theorem gJ {a:A}{vars:Int}(h:a.valid vars=true):fA a.f=a∧Cn a.f.ts:=by
 unfold A.valid at h
 simp only[Bool.and_eq_true] at h
 obtain⟨g1,g2,_⟩:=zDY h.1
 refine⟨?_,g2⟩
 obtain⟨ts,c⟩:=a
 show (⟨tR (tq ts),zC c.q⟩:A)=⟨ts,c⟩
 rw[g1,zJK h.2]
theorem add_zero {f:F}(h:Cn f.ts):f.add F.zero=f:=by
 refine F.ext' ?_ ?_
 ·refine (Cn.mrg h Cn.nil).ext h (fun v=>?_)
  show co (mrg 1 f.ts []) v=_
  rw[j6];simp only[co];grind
 ·show f.c+0 * 1=f.c
  grind
structure Qry.can (q:Qry):Prop where
 us:∀ a,a∈q.g.us→fA a.f=a∧Cn a.f.ts
 os:∀ a,a∈q.g.os→fA a.f=a∧Cn a.f.ts
 rows:∀ a,a∈q.r.rows→fA a.f=a∧Cn a.f.ts
 lo:∀ x,x∈q.r.lo→zC x.q=x
 hi:∀ x,x∈q.r.hi→zC x.q=x
theorem zSE:∀ {lo hi:List R},lo.length=hi.length→vB lo hi=true→(∀ x,x∈lo→zC x.q=x)∧∀ x,x∈hi→zC x.q=x:=fun he h=>by
 rw[iU he] at h
 simp only[Bool.and_eq_true,List.all_eq_true] at h
 exact⟨fun x hx=>zJK (h.1 x hx),fun x hx=>zJK (h.2.1 x hx)⟩
theorem Qry.can_of {q:Qry}(h:q.valid=true):q.can:=by
 unfold Qry.valid Grp.valid Reg.valid at h
 simp only[Bool.and_eq_true,decide_eq_true_eq,List.all_eq_true] at h
 obtain⟨⟨⟨⟨h1,h2⟩,h3⟩,⟨h4,h5⟩,h6⟩,h7⟩:=h
 obtain⟨b1,b2⟩:=zSE (by omega) h5
 refine⟨fun a ha=>?_,fun a ha=>gJ (h3 a ha),fun a ha=>gJ (h6 a ha),b1,b2⟩
 obtain⟨j,_,hj⟩:=zGD h2 ha
 exact gJ hj
def u8c (b:UInt8):List PV:=[.int .u8 (fun _=>(b.toNat:Int))]
theorem c7 (b:UInt8):yT uT (u8c b)=true:=rfl
theorem bR (b:UInt8):(u8c b).length=1:=rfl
abbrev u8v (raw:List UInt8):PV:=.sl (fun _=>enc u8c raw)
abbrev fdo (raw:List UInt8) (a:Nat):List (Nat × Obj'):=[(1000000,.box [u8v raw,.int .i64 (fun _=>(a:Int))])]
theorem fE (raw:List UInt8)(a n:Nat)(hr:raw.length<2^38)(hn:0<n)(hn2:n<2^60)(ha:a≤raw.length) :
  Sound 103 [.ptr 1000000 0,.int .i64 (fun _=>(n:Int))] (fdo raw a) [] (.int .i64 (fun _=>(fdN raw n a:Int))) (fdo raw (na raw a)) []:=by
 refine sF Tryz.f103 ?_
 have h0:¬ a<raw.length→fdN raw n a=0:=fun h=>by unfold fdN;rw[List.getElem?_eq_none (by omega)]
 have h1:∀ x,raw[a]?=some x→fdN raw n a=x.toNat % n:=fun x h=>by unfold fdN;rw[h]
 have n0:¬ a<raw.length→na raw a=a:=fun h=>if_neg h
 have n1:a<raw.length→na raw a=a+1:=fun h=>if_pos h
 generalize fdN raw n a=r at *
 generalize na raw a=b at *
 cbv
 refine zO 10 (by cbv) ?_
 cbv
 refine zF (fun h=>?_) (fun h=>?_)
 ·have hlt:¬ a<raw.length:=by rw[zA] at h;(try dsimp only [zG] at *);omega
  have e1:=h0 hlt
  have e2:=n0 hlt
  cbv
  subst e1 e2
  exact zJJ rfl (lR) rfl rfl rfl rfl
 ·have hlt:a<raw.length:=by rw[zA] at h;(try dsimp only [zG] at *);omega
  obtain⟨x,hx⟩:=zS hlt
  have e1:=h1 x hx
  have e2:=n1 hlt
  cbv
  refine⟨zH om om,?_⟩
  cbv
  refine zO 15 (by cbv) ?_
  cbv
  refine⟨zH om om,xB (l:=raw) a om hlt c7 bR (fun x' hx'=>?_)⟩
  obtain rfl:x'=x:=by rw[hx] at hx';exact (Option.some.inj hx').symm
  have hx8:=x'.toNat_lt
  cbv
  refine⟨wS om,?_⟩
  cbv
  refine zGN (.le (ps':=⟨[(4,.int .i64 (fun _=>(r:Int)))],[(1000000,.box [u8v raw,.int .i64 (fun _=>(b:Int))])]⟩) ?_ ?_ rfl) rfl (lR) rfl rfl rfl rfl
  ·cbv
   refine⟨zE ?_,trivial⟩
   show irem (nx .i64 (x'.toNat:Int)) (n:Int)=_
   unfold irem nx
   rw[show IntKind.wrap .i64 (x'.toNat:Int)=(x'.toNat:Int) by simp [IntKind.wrap,IntKind.signed,IntKind.bits];omega,e1]
   exact (Int.ofNat_tmod _ _).symm
  ·cbv
   exact⟨⟨lR,zE om,trivial⟩,trivial⟩
theorem zI9 {k:Nat}(h:k<4):(k=0∧dnm k=1)∨(k=1∧dnm k=1)∨(k=2∧dnm k=2)∨(k=3∧dnm k=4):=by
 match k,h with
 | 0,_=>exact .inl ⟨rfl,rfl⟩
 | 1,_=>exact .inr (.inl ⟨rfl,rfl⟩)
 | 2,_=>exact .inr (.inr (.inl ⟨rfl,rfl⟩))
 | 3,_=>exact .inr (.inr (.inr ⟨rfl,rfl⟩))
theorem zDB (raw:List UInt8)(a:Nat)(hr:raw.length<2^38)(ha:a≤raw.length) :
  Sound 104 [.ptr 1000000 0] (fdo raw a) [] (rv (zC (fdQ raw a).1)) (fdo raw (fdQ raw a).2) []:=by
 refine sF Tryz.f104 ?_
 have c9:=fE raw a 9 hr (by decide) (by decide) ha
 have c4:=fE raw (na raw a) 4 hr (by decide) (by decide) (jW ha)
 have h9:fdN raw 9 a<9:=qF (by decide)
 have h4:fdN raw 4 (na raw a)<4:=qF (by decide)
 have hd:=zI9 h4
 have hp:=zH6 (fdN raw 4 (na raw a))
 have cf:=s43 ((fdN raw 9 a:Int) - 4) (dnm (fdN raw 4 (na raw a))) (by omega) (by omega) (by omega) (by omega) (by omega)
 have e1:(fdQ raw a).1=uD ((fdN raw 9 a:Int) - 4) (dnm (fdN raw 4 (na raw a))):=rfl
 have e2:(fdQ raw a).2=na raw (na raw a):=rfl
 rw[e1,e2]
 show wp _ _ (j1 _ (rv (zC (uD ((fdN raw 9 a:Int) - 4) (dnm (fdN raw 4 (na raw a)))))) (fdo raw (na raw (na raw a))) [])
 generalize zC (uD ((fdN raw 9 a:Int) - 4) (dnm (fdN raw 4 (na raw a))))=X at *
 generalize dnm (fdN raw 4 (na raw a))=d at *
 generalize fdN raw 9 a=k9 at *
 generalize fdN raw 4 (na raw a)=k4 at *
 generalize na raw (na raw a)=b2 at *
 generalize na raw a=b1 at *
 clear e1 e2 hp
 cbv
 refine xW (fun _=>1000000) (.refl _) rfl okA c9 ⟨⟨rfl,rfl⟩,trivial⟩ rfl rfl rfl rfl rfl rfl rfl rfl ?_
 cbv
 refine⟨zH om om,?_⟩
 cbv
 refine xW (fun _=>1000000) (.refl _) rfl okA c4 ⟨⟨rfl,rfl⟩,trivial⟩ rfl rfl rfl rfl rfl rfl rfl rfl ?_
 rcases hd with ⟨q1,q2⟩ | ⟨q1,q2⟩ | ⟨q1,q2⟩ | ⟨q1,q2⟩
 ·subst q1 q2
  cbv
  refine gT 0 rfl (by decide) ?_
  cbv
  refine cA cf ?_
  cbv
  exact lF (.refl _) rfl rfl rfl rfl (by cbv;exact okA)
 ·subst q1 q2
  cbv
  refine gT 1 rfl (by decide) ?_
  cbv
  refine cA cf ?_
  cbv
  exact lF (.refl _) rfl rfl rfl rfl (by cbv;exact okA)
 ·subst q1 q2
  cbv
  refine gT 2 rfl (by decide) ?_
  cbv
  refine cA cf ?_
  cbv
  exact lF (.refl _) rfl rfl rfl rfl (by cbv;exact okA)
 ·subst q1 q2
  cbv
  refine gT 3 rfl (by decide) ?_
  cbv
  refine cA cf ?_
  cbv
  exact lF (.refl _) rfl rfl rfl rfl (by cbv;exact okA)
theorem zFW {raw:List UInt8}{n v:Nat}{f:F}{a:Nat}(h:¬ 0<fdN raw 3 a):pW raw (n+1) v f a=pW raw n (v+1) f (na raw a):=if_neg h
theorem zFV {raw:List UInt8}{n v:Nat}{f:F}{a:Nat}(h:0<fdN raw 3 a):pW raw (n+1) v f a=pW raw n (v+1) (f.add ((F.var v).scale (fdQ raw (na raw a)).1)) (fdQ raw (na raw a)).2:=if_pos h
theorem zB8 (raw:List UInt8)(n a:Nat)(hr:raw.length<2^38)(ha:a≤raw.length)(hn:n≤100) :
  Sound 160 [.ptr 1000000 0,.int .i64 (fun _=>(n:Int))] (fdo raw a) [] (fv (fdF raw n a).1) (fdo raw (fdF raw n a).2) []:=by
 refine sF Tryz.f160 ?_
 have cq:∀ b,b≤raw.length→Sound 104 [.ptr 1000000 0] (fdo raw b) [] (rv (zC (fdQ raw b).1)) (fdo raw (fdQ raw b).2) []:=fun b hb=>zDB raw b hr hb
 have c3:∀ b,b≤raw.length→Sound 103 [.ptr 1000000 0,.int .i64 (fun _=>(3:Int))] (fdo raw b) [] (.int .i64 (fun _=>(fdN raw 3 b:Int))) (fdo raw (na raw b)) []:=fun b hb=>fE raw b 3 hr (by decide) (by decide) hb
 have hna:∀ b,b≤raw.length→na raw b≤raw.length:=fun b hb=>jW hb
 have hq2:∀ b,b≤raw.length→(fdQ raw b).2≤raw.length:=fun b hb=>sW hb
 have hd:fdF raw n a=pW raw n 0 (F.num (fdQ raw a).1) (fdQ raw a).2:=rfl
 show wp _ _ (j1 _ (av (fA (fdF raw n a).1)) (fdo raw (fdF raw n a).2) [])
 generalize fdF raw n a=R at *
 obtain⟨W,hW⟩:∃ W,fA R.1=W:=⟨_,rfl⟩
 rw[hW]
 obtain⟨X0,hX0⟩:∃ X,zC (fdQ raw a).1=X:=⟨_,rfl⟩
 have cq0:Sound 104 [.ptr 1000000 0] (fdo raw a) [] (rv X0) (fdo raw (fdQ raw a).2) []:=by subst hX0;exact cq a ha
 cbv
 refine xW (fun _=>1000000) (.refl _) rfl okA cq0 ⟨⟨rfl,rfl⟩,trivial⟩ rfl rfl rfl rfl rfl rfl rfl rfl ?_
 cbv
 refine z4 (σ:=Nat × Nat × F) (fun s=>⟨[(0,.ptr 1000000 0),(1,.int .i64 (fun _=>(n:Int))),(4,.ptr 4 0),(5,.ptr 5 0),(6,.int .i64 (fun _=>(s.1:Int)))],
   [(1000000,.box [u8v raw,.int .i64 (fun _=>(s.2.1:Int))]),(4,.box [.nil,.ff,.nil,.nil]),(5,.box [.sl (fun _=>enc tc (fA s.2.2).ts),.bool (fun _=>(fA s.2.2).c.neg),.sl (fun _=>lm (fA s.2.2).c.num),.sl (fun _=>lm (fA s.2.2).c.den)])]⟩)
  (fun s=>s.1≤n∧s.2.1≤raw.length∧R=pW raw (n - s.1) s.1 s.2.2 s.2.1∧s.2.2.wf s.1∧s.2.2.fl (1+6 * s.1) s.1) (fun s=>n - s.1)
  (0,(fdQ raw a).2,F.num (fdQ raw a).1) ⟨by omega,hq2 a ha,hd,F.wf.num _ _,(wY (uU raw a)).mono (by omega) (by omega)⟩ (.le ?_ ?_ rfl) ?_
 ·cbv
  exact okA
 ·cbv
  subst hX0
  exact okA
 clear hd cq0 hX0
 intro s hs
 obtain⟨v,b,f⟩:=s
 obtain⟨g1,g2,g3,g4,g5⟩:=hs
 dsimp only at g1 g2 g3 g4 g5
 cbv
 refine zF (fun h=>?_) (fun h=>?_)
 ·have hv:v<n:=om
  rw[show n - v=(n - (v+1))+1 by omega] at g3
  have c3':=c3 b g2
  generalize hk3:fdN raw 3 b=k3 at *
  cbv
  refine xW (fun _=>1000000) (.refl _) rfl okA c3' ⟨⟨rfl,rfl⟩,trivial⟩ rfl rfl rfl rfl rfl rfl rfl rfl ?_
  cbv
  refine zF (fun h2=>?_) (fun h2=>?_)
  ·rw[zFV (by rw[hk3];(try dsimp only [zG] at *);omega)] at g3
   have hq:=uU raw (na raw b)
   have hb':=hq2 (na raw b) (hna b g2)
   have cn:=cq (na raw b) (hna b g2)
   have csc:=b5 (f:=F.var v) (wO v) hq (by decide) (by decide) (by decide)
   have w2:((F.var v).scale (fdQ raw (na raw b)).1).wf ((v+1:Nat):Int):=(F.wf.var (by omega) (by omega)).scale
   have l2:((F.var v).scale (fdQ raw (na raw b)).1).fl (1+1+2) 1:=(wO v).scale hq
   have cad:=zPP g4.cn w2.cn g5 l2 (by omega) (by omega) (by omega) (by omega)
   have w3:=(g4.mono (by omega:(v:Int)≤((v+1:Nat):Int))).add w2
   have l3:=(g5.add l2).mono (k':=1+6 * (v+1)) (n':=v+1) (by omega) (by omega)
   generalize (fdQ raw (na raw b)).2=b' at *
   generalize (fdQ raw (na raw b)).1=q at *
   generalize hS:(F.var v).scale q=S at *
   generalize hT:f.add S=T at *
   obtain⟨V,hV⟩:∃ V,fA (F.var v)=V:=⟨_,rfl⟩
   obtain⟨S',hS'⟩:∃ S',fA S=S':=⟨_,rfl⟩
   obtain⟨T',hT'⟩:∃ T',fA T=T':=⟨_,rfl⟩
   obtain⟨X,hX⟩:∃ X,zC q=X:=⟨_,rfl⟩
   obtain⟨f',hf'⟩:∃ f',fA f=f':=⟨_,rfl⟩
   have d1:zB 125 [.int .i64 (fun _=>(v:Int))] (av V):=by subst hV;exact bY v
   have d2:zB 59 [av V,rv X] (av S'):=by subst hV hX hS';exact csc
   have d3:zB 58 [av f',av S'] (av T'):=by subst hf' hS' hT';exact cad
   have d4:Sound 104 [.ptr 1000000 0] (fdo raw (na raw b)) [] (rv X) (fdo raw b') []:=by subst hX;exact cn
   rw[hf']
   clear hV hX hS' csc cad cn
   cbv
   refine w5 6 [(4,1000000)] (by cbv) (by cbv) (by cbv) ?_
   cbv
   refine dA d1 ?_
   cbv
   refine oW (fun _=>1000000) rfl okA d4 rfl rfl rfl rfl rfl rfl ?_
   cbv
   refine dA d2 ?_
   cbv
   refine cA d3 ?_
   cbv
   refine⟨zH om om,(v+1,b',T),⟨om,hb',g3,w3,l3⟩,om,.le okZ ?_ rfl⟩
   subst hT'
   exact okZ
  ·rw[zFW (by rw[hk3];(try dsimp only [zG] at *);omega)] at g3
   have hb':=hna b g2
   generalize na raw b=b' at *
   cbv
   exact⟨zH om om,(v+1,b',f),⟨om,hb',g3,g4.mono (by show (v:Int)≤((v+1:Nat):Int);omega),g5.mono (by show 1+6 * v≤1+6 * (v+1);omega) (by show v≤v+1;omega)⟩,(by show n - (v+1)<n - v;omega),wkZ⟩
 ·have hv:v=n:=om
  have hR:R=(f,b):=by rw[g3,show n - v=0 by omega];rfl
  subst hR
  have hW':fA f=W:=hW
  cbv
  subst hW'
  exact lF (.refl _) rfl rfl rfl rfl (by cbv;exact okA)
theorem zSH:ty 22=.sli 1 1 [.int .u8 (fun _=>0)]:=by cbv
theorem pM:ty 30=.sli 4 80 [.nil,.ff,.nil,.nil]:=by cbv
theorem qS:ty 33=.sli 3 56 [.ff,.nil,.nil]:=by cbv
theorem zDC (raw:List UInt8)(hr:raw.length<2^38):Sound 93 [u8v raw] [] [] (.ptr 100 0) [] [(100,.box [u8v raw,.int .i64 (fun _=>((0:Nat):Int))])]:=by
 refine sF Tryz.f93 ?_
 cbv
 refine aN zSH rfl rfl (wN bR _) (yA (by simp only[zA];omega) (by simp only[zA];omega)) rfl ?_
 cbv
 refine zFD 7 (.trans (.frz 5 rfl rfl ?_ ?_) (.le (ps':=⟨[(2,.ptr 7 0)],[(7,.box [u8v raw,.int .i64 (fun _=>((0:Nat):Int))])]⟩) ?_ ?_ rfl)) rfl rfl rfl ?_
 ·cbv
  repeat' first | exact trivial | exact z8 (by simp [zA]) | apply And.intro
 ·cbv
  repeat' first | exact trivial | exact z8 (by simp [zA]) | apply And.intro
 ·exact okZ
 ·cbv
  exact⟨⟨zQ (List.take_of_length_le (by simp [zA])),lR,trivial⟩,trivial⟩
 ·cbv
  exact lR
theorem oU (raw:List UInt8)(d k v a:Nat):fdL raw d (k+1) v a=((fdF raw v a).1::(fdL raw d k (v+d) (fdF raw v a).2).1,(fdL raw d k (v+d) (fdF raw v a).2).2):=rfl
theorem oT (raw:List UInt8)(d v a:Nat):fdL raw d 0 v a=([],a):=rfl
theorem qG {α:Type}(p:α→List PV)(l:List α)(a:α):enc p l++zL [p a]=enc p (l++[a]):=by rw[←zT];rfl
theorem zD8 (raw:List UInt8)(a:Nat)(hr:raw.length<2^38)(ha:a≤raw.length) :
  Sound 105 [.ptr 1000000 0] (fdo raw a) [] (gv (fdG raw a).1.g) (fdo raw (fdG raw a).2) []:=by
 refine sF Tryz.f105 ?_
 have c1:=fE raw a 3 hr (by decide) (by decide) ha
 have c2:=fE raw (na raw a) 5 hr (by decide) (by decide) (jW ha)
 have c3:=fE raw (na raw (na raw a)) 3 hr (by decide) (by decide) (jW (jW ha))
 have cF:∀ (v b:Nat),b≤raw.length→v≤100→Sound 160 [.ptr 1000000 0,.int .i64 (fun _=>(v:Int))] (fdo raw b) [] (fv (fdF raw v b).1) (fdo raw (fdF raw v b).2) []:=fun v b h1 h2=>zB8 raw v b hr h1 h2
 have hFl:∀ (v b:Nat),b≤raw.length→(fdF raw v b).2≤raw.length:=fun v b h=>zDN h
 have l1:fdN raw 3 a<3:=qF (by decide)
 have l2:fdN raw 5 (na raw a)<5:=qF (by decide)
 have l3:fdN raw 3 (na raw (na raw a))<3:=qF (by decide)
 have hb3:na raw (na raw (na raw a))≤raw.length:=jW (jW (jW ha))
 have hG:fdG raw a=(⟨1+fdN raw 3 a,(fdL raw 1 (fdN raw 5 (na raw a)) (1+fdN raw 3 a) (na raw (na raw (na raw a)))).1,(fdL raw 0 (1+fdN raw 3 (na raw (na raw a))) (1+fdN raw 3 a+fdN raw 5 (na raw a)) (fdL raw 1 (fdN raw 5 (na raw a)) (1+fdN raw 3 a) (na raw (na raw (na raw a)))).2).1⟩,(fdL raw 0 (1+fdN raw 3 (na raw (na raw a))) (1+fdN raw 3 a+fdN raw 5 (na raw a)) (fdL raw 1 (fdN raw 5 (na raw a)) (1+fdN raw 3 a) (na raw (na raw (na raw a)))).2).2):=rfl
 rw[hG]
 clear hG
 generalize na raw (na raw (na raw a))=b3 at *
 generalize na raw (na raw a)=b2 at *
 generalize na raw a=b1 at *
 generalize fdN raw 3 a=x1 at *
 generalize fdN raw 5 b1=x2 at *
 generalize fdN raw 3 b2=x3 at *
 obtain⟨U,hU⟩:∃ U,fdL raw 1 x2 (1+x1) b3=U:=⟨_,rfl⟩
 obtain⟨O,hO⟩:∃ O,fdL raw 0 (1+x3) (1+x1+x2) U.2=O:=⟨_,rfl⟩
 rw[hU,hO]
 have hUl:U.1.length=x2:=by rw[←hU,gG]
 have hOl:O.1.length=1+x3:=by rw[←hO,gG]
 obtain⟨UA,hUA⟩:∃ l,U.1.map fA=l:=⟨_,rfl⟩
 obtain⟨OA,hOA⟩:∃ l,O.1.map fA=l:=⟨_,rfl⟩
 obtain⟨bO,hbO⟩:∃ b,O.2=b:=⟨_,rfl⟩
 have hgoal:gv (⟨1+x1,U.1,O.1⟩:FGrp).g=.agg [.int .i64 (fun _=>((1+x1:Nat):Int)),alv UA,alv OA]:=by rw[←hUA,←hOA];rfl
 show wp _ _ (j1 _ (gv (⟨1+x1,U.1,O.1⟩:FGrp).g) (fdo raw O.2) [])
 rw[hgoal,hbO]
 clear hgoal
 cbv
 refine xW (fun _=>1000000) (.refl _) rfl okA c1 ⟨⟨rfl,rfl⟩,trivial⟩ rfl rfl rfl rfl rfl rfl rfl rfl ?_
 cbv
 refine⟨zH om om,?_⟩
 cbv
 refine xW (fun _=>1000000) (.refl _) rfl okA c2 ⟨⟨rfl,rfl⟩,trivial⟩ rfl rfl rfl rfl rfl rfl rfl rfl ?_
 cbv
 refine xW (fun _=>1000000) (.refl _) rfl okA c3 ⟨⟨rfl,rfl⟩,trivial⟩ rfl rfl rfl rfl rfl rfl rfl rfl ?_
 cbv
 refine⟨zH om om,?_⟩
 cbv
 refine z4 (σ:=Nat × Nat × List F) (fun s=>⟨[(0,.ptr 1000000 0),(2,.ptr 2 0),(3,.ptr 3 0),(4,.int .i64 (fun _=>(x2:Int))),(5,.int .i64 (fun _=>((1+x3:Nat):Int))),(6,.int .i64 (fun _=>(s.1:Int)))],
   [(1000000,.box [u8v raw,.int .i64 (fun _=>(s.2.1:Int))]),(2,.box [.int .i64 (fun _=>0),.nil,.nil]),(3,.box [.int .i64 (fun _=>((1+x1:Nat):Int)),.osl 31 4 (fun _=>0) (fun _=>s.2.2.length),.nil]),(31,.arr 4 (fun _=>enc ac (s.2.2.map fA)))]⟩)
  (fun s=>s.1≤x2∧s.2.1≤raw.length∧U.1=s.2.2++(fdL raw 1 (x2 - s.1) (1+x1+s.1) s.2.1).1∧U.2=(fdL raw 1 (x2 - s.1) (1+x1+s.1) s.2.1).2) (fun s=>x2 - s.1)
  (0,b3,[]) ⟨by omega,hb3,by rw[←hU];rfl,by rw[←hU];rfl⟩
  (.trans (.le (ps':=⟨[(0,.ptr 1000000 0),(2,.ptr 2 0),(3,.ptr 3 0),(4,.int .i64 (fun _=>(x2:Int))),(5,.int .i64 (fun _=>((1+x3:Nat):Int))),(6,.int .i64 (fun _=>((0:Nat):Int)))],
    [(1000000,.box [u8v raw,.int .i64 (fun _=>(b3:Int))]),(2,.box [.int .i64 (fun _=>0),.nil,.nil]),(3,.box [.int .i64 (fun _=>((1+x1:Nat):Int)),.nil,.nil])]⟩) okZ okZ rfl)
   (.trans (.adoptB (ps:=⟨[(0,.ptr 1000000 0),(2,.ptr 2 0),(3,.ptr 3 0),(4,.int .i64 (fun _=>(x2:Int))),(5,.int .i64 (fun _=>((1+x3:Nat):Int))),(6,.int .i64 (fun _=>((0:Nat):Int)))],
    [(1000000,.box [u8v raw,.int .i64 (fun _=>(b3:Int))]),(2,.box [.int .i64 (fun _=>0),.nil,.nil]),(3,.box [.int .i64 (fun _=>((1+x1:Nat):Int)),.nil,.nil])]⟩) (cs:=[.int .i64 (fun _=>((1+x1:Nat):Int)),.nil,.nil]) 31 4 3 1 rfl rfl rfl) (.le okZ ?_ rfl))) ?_
 ·cbv
  exact⟨okA,okA,okA,zI rfl,trivial⟩
 intro s hs
 obtain⟨j,b,us⟩:=s
 obtain⟨g1,g2,g3,g4⟩:=hs
 dsimp only at g1 g2 g3 g4
 cbv
 refine zF (fun h=>?_) (fun h=>?_)
 ·have hj:j<x2:=om
  rw[show x2 - j=(x2 - (j+1))+1 by omega,oU] at g3 g4
  have cf:=cF (1+x1+j) b g2 (by omega)
  have hb':=hFl (1+x1+j) b g2
  generalize hFF:fdF raw (1+x1+j) b=FF at *
  obtain⟨W,hW⟩:∃ W,fA FF.1=W:=⟨_,rfl⟩
  obtain⟨b',hbb⟩:∃ b',FF.2=b':=⟨_,rfl⟩
  have d1:Sound 160 [.ptr 1000000 0,.int .i64 (fun _=>((1+x1+j:Nat):Int))] (fdo raw b) [] (av W) (fdo raw b') []:=by subst hW hbb;exact cf
  rw[hbb] at g3 g4 hb'
  clear cf
  cbv
  refine w5 9 [(7,1000000)] (by cbv) (by cbv) (by cbv) ?_
  cbv
  refine⟨zH om om,?_⟩
  cbv
  refine oW (fun _=>1000000) rfl (by exact⟨lR,zE om,trivial⟩) d1 rfl rfl rfl rfl rfl rfl ?_
  cbv
  refine wV pM rfl rfl rfl (by simp [zA]) rfl ⟨by simp [zL,y8]⟩ (yA (by simp [zL] <;> omega) (by have hus:us.length<x2:=(by have:=congrArg List.length g3;rw[hUl] at this;simp at this;omega);simp [zL,zA];(try dsimp only [zG] at *);omega)) rfl ?_
  cbv
  refine⟨zH om om,(j+1,b',us++[FF.1]),⟨om,hb',by rw[g3];simp [Nat.add_assoc],by rw[g4];simp [Nat.add_assoc]⟩,(by show x2 - (j+1)<x2 - j;omega),.le okZ ?_ rfl⟩
  cbv
  refine⟨okA,okA,⟨lR,zW rfl (by simp [zL,zA]),lR,trivial⟩,zI ?_,trivial⟩
  subst hW
  show enc ac (us.map fA)++zL [ac (fA FF.1)]=enc ac ((us++[FF.1]).map fA)
  rw[qG,List.map_append]
  rfl
 have hj:j=x2:=om
 subst hj
 rw[Nat.sub_self,oT] at g3 g4
 have e1:U.1=us:=by rw[g3];simp
 have e2:U.2=b:=g4
 have hul:us.length=j:=by rw[←e1,←hU,gG]
 have hUAs:us.map fA=UA:=by rw[←hUA,e1]
 rw[e2] at hO
 clear g3 g4 h hU hUA e1 e2
 cbv
 refine z4 (σ:=Nat × Nat × List F) (fun s=>⟨[(0,.ptr 1000000 0),(2,.ptr 2 0),(3,.ptr 3 0),(4,.int .i64 (fun _=>(j:Int))),(5,.int .i64 (fun _=>((1+x3:Nat):Int))),(7,.int .i64 (fun _=>(s.1:Int)))],
   [(1000000,.box [u8v raw,.int .i64 (fun _=>(s.2.1:Int))]),(2,.box [.int .i64 (fun _=>0),.nil,.nil]),(3,.box [.int .i64 (fun _=>((1+x1:Nat):Int)),alv UA,.osl 47 4 (fun _=>0) (fun _=>s.2.2.length)]),(47,.arr 4 (fun _=>enc ac (s.2.2.map fA)))]⟩)
  (fun s=>s.1≤1+x3∧s.2.1≤raw.length∧O.1=s.2.2++(fdL raw 0 (1+x3 - s.1) (1+x1+j) s.2.1).1∧O.2=(fdL raw 0 (1+x3 - s.1) (1+x1+j) s.2.1).2) (fun s=>1+x3 - s.1)
  (0,b,[]) ⟨by omega,g2,by rw[←hO];rfl,by rw[←hO];rfl⟩
  (.trans (.frz 31 rfl rfl (by cbv;repeat' first | exact trivial | exact z8 (by simp [zA]) | apply And.intro) (by cbv;repeat' first | exact trivial | exact z8 (by simp [zA]) | apply And.intro))
   (.trans (.le (ps':=⟨[(0,.ptr 1000000 0),(2,.ptr 2 0),(3,.ptr 3 0),(4,.int .i64 (fun _=>(j:Int))),(5,.int .i64 (fun _=>((1+x3:Nat):Int))),(7,.int .i64 (fun _=>((0:Nat):Int)))],
    [(1000000,.box [u8v raw,.int .i64 (fun _=>(b:Int))]),(2,.box [.int .i64 (fun _=>0),.nil,.nil]),(3,.box [.int .i64 (fun _=>((1+x1:Nat):Int)),alv UA,.nil])]⟩) okZ ?_ rfl)
   (.trans (.adoptB (ps:=⟨[(0,.ptr 1000000 0),(2,.ptr 2 0),(3,.ptr 3 0),(4,.int .i64 (fun _=>(j:Int))),(5,.int .i64 (fun _=>((1+x3:Nat):Int))),(7,.int .i64 (fun _=>((0:Nat):Int)))],
    [(1000000,.box [u8v raw,.int .i64 (fun _=>(b:Int))]),(2,.box [.int .i64 (fun _=>0),.nil,.nil]),(3,.box [.int .i64 (fun _=>((1+x1:Nat):Int)),alv UA,.nil])]⟩) (cs:=[.int .i64 (fun _=>((1+x1:Nat):Int)),alv UA,.nil]) 47 4 3 2 rfl rfl rfl) (.le okZ ?_ rfl)))) ?_
 ·cbv
  exact⟨okA,okA,⟨lR,zQ (by rw[List.drop_zero,List.take_of_length_le (by simp [zA]),hUAs]),lR,trivial⟩,trivial⟩
 ·cbv
  exact⟨okA,okA,okA,zI rfl,trivial⟩
 clear g2 hUAs hul
 intro s hs
 obtain⟨i,b,os⟩:=s
 obtain⟨g1',g2,g3,g4⟩:=hs
 dsimp only at g1' g2 g3 g4
 cbv
 refine zF (fun h=>?_) (fun h=>?_)
 ·have hi:i<1+x3:=om
  rw[show 1+x3 - i=(1+x3 - (i+1))+1 by omega,oU] at g3 g4
  have cf:=cF (1+x1+j) b g2 (by omega)
  have hb':=hFl (1+x1+j) b g2
  generalize hFF:fdF raw (1+x1+j) b=FF at *
  obtain⟨W,hW⟩:∃ W,fA FF.1=W:=⟨_,rfl⟩
  obtain⟨b',hbb⟩:∃ b',FF.2=b':=⟨_,rfl⟩
  have d1:Sound 160 [.ptr 1000000 0,.int .i64 (fun _=>((1+x1+j:Nat):Int))] (fdo raw b) [] (av W) (fdo raw b') []:=by subst hW hbb;exact cf
  rw[hbb] at g3 g4 hb'
  clear cf
  cbv
  refine w5 9 [(7,1000000)] (by cbv) (by cbv) (by cbv) ?_
  cbv
  refine⟨zH om om,?_⟩
  cbv
  refine oW (fun _=>1000000) rfl (by exact⟨lR,zE om,trivial⟩) d1 rfl rfl rfl rfl rfl rfl ?_
  cbv
  refine wV pM rfl rfl rfl (by simp [zA]) rfl ⟨by simp [zL,y8]⟩ (yA (by simp [zL] <;> omega) (by have hos:os.length<1+x3:=(by have:=congrArg List.length g3;rw[hOl] at this;simp at this;omega);simp [zL,zA];(try dsimp only [zG] at *);omega)) rfl ?_
  cbv
  refine⟨zH om om,(i+1,b',os++[FF.1]),⟨om,hb',by rw[g3];simp [Nat.add_assoc],by rw[g4];simp [Nat.add_assoc]⟩,(by show 1+x3 - (i+1)<1+x3 - i;omega),.le okZ ?_ rfl⟩
  cbv
  refine⟨okA,okA,⟨lR,lR,zW rfl (by simp [zL,zA]),trivial⟩,zI ?_,trivial⟩
  subst hW
  show enc ac (os.map fA)++zL [ac (fA FF.1)]=enc ac ((os++[FF.1]).map fA)
  rw[qG,List.map_append]
  rfl
 ·have hi:i=1+x3:=om
  subst hi
  rw[Nat.sub_self,oT] at g3 g4
  have e1:O.1=os:=by rw[g3];simp
  have e2:O.2=b:=g4
  have e3:os.map fA=OA:=by rw[←hOA,e1]
  have e4:b=bO:=by rw[←hbO,e2]
  subst e4
  cbv
  refine lF (.trans (.le (ps':=⟨[(2,.ptr 2 0)],[(1000000,.box [u8v raw,.int .i64 (fun _=>(b:Int))]),(2,.box [.int .i64 (fun _=>((1+x1:Nat):Int)),alv UA,.osl 47 4 (fun _=>0) (fun _=>os.length)]),(47,.arr 4 (fun _=>enc ac (os.map fA)))]⟩) okZ ?_ rfl) (.frz 47 rfl rfl (by cbv;repeat' first | exact trivial | exact z8 (by simp [zA]) | apply And.intro) (by cbv;repeat' first | exact trivial | exact z8 (by simp [zA]) | apply And.intro))) rfl rfl rfl rfl ?_
  ·cbv
   exact⟨okA,okA,zI rfl,trivial⟩
  ·cbv
   exact⟨lR,lR,zQ (by rw[List.drop_zero,List.take_of_length_le (by simp [zA]),e3]),trivial⟩
end Go.Proofs.YtgcpehdkdnkgeaaGreat
