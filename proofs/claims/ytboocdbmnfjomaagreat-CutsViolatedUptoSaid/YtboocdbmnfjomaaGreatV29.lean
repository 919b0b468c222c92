/- A part of the proof: FdD, RtB. -/
import Derived.Test.YtboocdbmnfjomaaGreatV28
import Derived.Test.YtboocdbmnfjomaaGreatV27
import Derived.Test.YtboocdbmnfjomaaGreatV25
set_option linter.all false
namespace Go.Proofs.YtboocdbmnfjomaaGreat
open Go
set_option maxRecDepth 100000
set_option maxHeartbeats 4000000
def JC:ty 40=.sli 5 72 [iV 0,iV 0,.ff,.nil,.nil]:=by cbv
def FJ (raw:List UInt8)(q:Qry)(n m a:Nat)(p:List Dec):lG raw q n m 0 p a=p:=rfl
def FK (raw:List UInt8)(q:Qry)(n m k a:Nat)(p:List Dec):lG raw q n m (k+1) p a =(if 1+fdN raw 4 a=3\/1+fdN raw 4 a=4 then lG raw q n m k (p++[⟨((1+fdN raw 4 a:Nat):Int),fdN raw n (na raw a),zK (fdQ raw (na raw (na raw a))).1⟩]) (fdQ raw (na raw (na raw a))).2 else if m=0 then lG raw q n m k p (na raw a) else if (⟨q,p,[]⟩:Scp).dcd 1 (fdN raw m (na raw a))=true\/(⟨q,p,[]⟩:Scp).dcd 2 (fdN raw m (na raw a))=true then lG raw q n m k p (na raw (na raw a)) else lG raw q n m k (p++[⟨((1+fdN raw 4 a:Nat):Int),fdN raw m (na raw a),R0⟩]) (na raw (na raw a))):=rfl
theorem PathOk.dsz {n m k:Nat}{p:List Dec}(h:PathOk n m p)(hl:p.length<2^38)(hk:1<=k):Dsz k p:=⟨hl,λd hd=>by
 rcases h.d d hd with⟨_,_,_,h⟩|⟨_,_,_,q,hq,h⟩;{rw[h];exact⟨xO _,xO _⟩}
 ·rw[h];exact z5 (hq.mono hk)⟩
abbrev svN (s:Scp):PV:=.agg [iV s.q.g.n,alv s.q.g.us,alv s.q.g.os,rlv s.q.r.lo,rlv s.q.r.hi,alv s.q.r.rows,tsv s.q.goal.ts,zM s.q.goal.c.neg,nat s.q.goal.c.num,nat s.q.goal.c.den,dlv s.path,.nil]
def DZ (raw : List UInt8) (hr : raw.length < 2^38) : zH 29 [u8v raw] (svN (fdS raw)) := by
  refine sF Tryz.f29 ?_
  have c0 := PG raw hr
  have c1 := Mz raw 0 hr (xO _)
  have sm := j1 raw 0
  have b1 := Ts (raw := raw) (a := 0) (xO _)
  have c2 := aA raw (fdY raw 0).2 4 hr (by decide) (by decide) b1
  have cN : ∀ m b : Nat, 0 < m → m < 2^60 → b ≤ raw.length → Sound 74 [.ptr 1000000 0, iV m] (fdo raw b) [] (iV ((fdN raw m b : Int))) (fdo raw (na raw b)) [] := fun m b h1 h2 h3 => aA raw b m hr h1 h2 h3
  have cQ : ∀ b : Nat, b ≤ raw.length → Sound 75 [.ptr 1000000 0] (fdo raw b) [] (rv (zK (fdQ raw b).1)) (fdo raw (fdQ raw b).2) [] := fun b h1 => JU raw b hr h1
  have hQl : ∀ b : Nat, b ≤ raw.length → (fdQ raw b).2 ≤ raw.length := fun b h => iT h
  have hQf : ∀ b : Nat, Fits 1 (fdQ raw b).1 := fun b => jQ raw b
  have hNl : ∀ b : Nat, b ≤ raw.length → na raw b ≤ raw.length := fun b h => dZ h
  have hN4 : ∀ b : Nat, fdN raw 4 b < 4 := fun b => j9 (by decide)
  have hNn : ∀ m b : Nat, 0 < m → fdN raw m b < m := fun m b h => j9 h
  have n1 := sm.g.n1
  have n2 := sm.g.n2
  have u4 := sm.g.us
  have hq1 : (fdY raw 0).1.q.g.n = ((fdY raw 0).1.g.n : Int) := rfl
  have hq2 : (fdY raw 0).1.q.g.us.length = (fdY raw 0).1.g.us.length := by show (List.map fA _).length = _; grind
  obtain ⟨P, hP⟩ := ex ((fdS raw).path)
  have hP' : P = lG raw (fdY raw 0).1.q (fdY raw 0).1.g.n (fdY raw 0).1.g.us.length (fdN raw 4 (fdY raw 0).2) [] (na raw (fdY raw 0).2) := hP.symm
  have hS : fdS raw = ⟨(fdY raw 0).1.q, P, []⟩ := by rw [← hP]; rfl
  rw [hS]
  have k4 := hN4 (fdY raw 0).2
  have ak := hNl _ b1
  clear hS hP sm
  generalize fdN raw 4 (fdY raw 0).2 = k0 at *
  generalize na raw (fdY raw 0).2 = a0 at *
  generalize (fdY raw 0).2 = a00 at *
  generalize (fdY raw 0).1.g.n = n at *
  generalize (fdY raw 0).1.g.us.length = m at *
  generalize (fdY raw 0).1.q = Q at *
  obtain ⟨⟨gn, gus, gos⟩, ⟨lo, hi', rows⟩, ⟨ts, c⟩⟩ := Q
  dsimp only at hq1 hq2
  subst hq1
  have cD : ∀ (p : List Dec) (k u : Int), PathOk n m p → p.length ≤ 3 → zH 76 [.agg [iV n, alv gus, alv gos, rlv lo, rlv hi', alv rows, tsv ts, zM c.neg, nat c.num, nat c.den, dlv p, llv []], iV k, iV u] (zM ((⟨⟨⟨(n : Int), gus, gos⟩, ⟨lo, hi', rows⟩, ⟨ts, c⟩⟩, p, []⟩ : Scp).dcd k u)) :=
    fun p k u h1 h2 => pR ⟨⟨⟨(n : Int), gus, gos⟩, ⟨lo, hi', rows⟩, ⟨ts, c⟩⟩, p, []⟩ k u (h1.dsz oM (by decide))
  cbv
  refine kA (fun _ => 8) c0 ?_
  cbv
  refine kA (fun _ => 8) c1 ?_
  cbv
  refine kA (fun _ => 8) c2 ?_
  cbv
  refine zY (σ := Nat × Nat × List Dec) (fun s => ⟨[(2, .ptr 2 0), (3, .ptr 8 0), (4, .ptr 4 0), (5, iV s.1)],
      [(2, .box [iV 0, .nil, .nil, .nil, .nil, .nil, .nil, .ff, .nil, .nil, .nil, .nil]), (8, .box [u8v raw, iV s.2.1]),
       (4, .box [iV n, alv gus, alv gos, rlv lo, rlv hi', alv rows, tsv ts, zM c.neg, nat c.num, nat c.den, zT 68 5 s.2.2.length, .nil]), (68, .log 5 (fun _ => enc dc s.2.2))]⟩)
    (fun s => s.2.1 ≤ raw.length ∧ P = lG raw ⟨⟨(n : Int), gus, gos⟩, ⟨lo, hi', rows⟩, ⟨ts, c⟩⟩ n m s.1 s.2.2 s.2.1 ∧ PathOk n m s.2.2 ∧ s.2.2.length + s.1 ≤ 3) (fun s => s.1)
    (k0, a0, []) ⟨ak, hP', ⟨fun d hd => absurd hd (by simp)⟩, by grind⟩
    (.trans (.le (ps' := ⟨[(2, .ptr 2 0), (3, .ptr 8 0), (4, .ptr 4 0), (5, iV k0)],
      [(2, .box [iV 0, .nil, .nil, .nil, .nil, .nil, .nil, .ff, .nil, .nil, .nil, .nil]), (8, .box [u8v raw, iV a0]),
       (4, .box [iV n, alv gus, alv gos, rlv lo, rlv hi', alv rows, tsv ts, zM c.neg, nat c.num, nat c.den, .nil, .nil])]⟩) okZ okZ rfl)
    (.trans (.adoptB (ps := ⟨[(2, .ptr 2 0), (3, .ptr 8 0), (4, .ptr 4 0), (5, iV k0)],
      [(2, .box [iV 0, .nil, .nil, .nil, .nil, .nil, .nil, .ff, .nil, .nil, .nil, .nil]), (8, .box [u8v raw, iV a0]),
       (4, .box [iV n, alv gus, alv gos, rlv lo, rlv hi', alv rows, tsv ts, zM c.neg, nat c.num, nat c.den, .nil, .nil])]⟩)
      (cs := [iV n, alv gus, alv gos, rlv lo, rlv hi', alv rows, tsv ts, zM c.neg, nat c.num, nat c.den, .nil, .nil]) 68 5 4 10 rfl rfl rfl)
    (.trans (.lend 68 5 rfl rfl trivial) (.le okZ ?_ rfl)))) ?_
  · cbv
    exact ⟨okA, okA, okA, zC rfl, trivial⟩
  clear c0 c1 c2 hP' ak b1 k4
  intro s hs
  obtain ⟨k, a, p⟩ := s
  obtain ⟨g1, g2, g3, g4⟩ := hs
  dsimp only at g1 g2 g3 g4
  cbv
  refine zG (fun h => ?_) (fun h => ?_)
  · obtain ⟨j, hj⟩ : ∃ j, k = j + 1 := ⟨k - 1, by exact om⟩
    subst hj
    rw [FK] at g2
    have n1 := cN 4 a (by decide) (by decide) g1
    have hv := hN4 a
    have ha1 := hNl a g1
    generalize fdN raw 4 a = v at *
    generalize na raw a = a1 at *
    cbv
    refine kA (fun _ => 8) n1 ?_
    cbv
    refine ⟨zE om om, ?_⟩
    cbv
    refine zX (fun e1 => ?_) (fun e1 => ?_)
    · have h34 : 1 + v = 3 ∨ 1 + v = 4 := by exact om
      rw [if_pos h34] at g2
      have q1 := cN n a1 oM oM ha1
      have ha2 := hNl a1 ha1
      have hi := hNn n a1 oM
      generalize fdN raw n a1 = i at *
      generalize na raw a1 = a2 at *
      have q2 := cQ a2 ha2
      have ha3 := hQl a2 ha2
      have hf := hQf a2
      generalize fdQ raw a2 = X at *
      obtain ⟨x, a3⟩ := X
      dsimp only at q2 ha3 hf g2
      obtain ⟨Y, hY⟩ := ex (zK x)
      rw [hY] at q2 g2
      cbv
      refine kA (fun _ => 8) q1 ?_
      cbv
      refine kA (fun _ => 8) q2 ?_
      cbv
      refine Qz JC rfl rfl rfl (by simp [zB]) rfl ⟨by simp [zI, y7]⟩ (zV oM (by simp [zI, zB]; exact om)) rfl ?_
      cbv
      refine ⟨zE om om, (j, a3, p ++ [⟨((1 + v : Nat) : Int), (i : Int), Y⟩]), ⟨ha3, g2, ⟨fun d hd => by
        rcases wZ.1 hd with hd | hd
        · exact g3.d d hd
        · obtain rfl := fZ.1 hd
          exact .inr ⟨by grind, by grind, by grind, x, hf, hY.symm⟩⟩, by show (p ++ [_]).length + j ≤ 3; simp; omega⟩, oM, .le okZ ?_ rfl⟩
      cbv
      refine ⟨okA, okA, ⟨lR, lR, lR, lR, lR, lR, lR, lR, lR, lR, zR rfl (by simp [zI, zB]), lR, trivial⟩, zC ?_, trivial⟩
      rw [← bN]
      rfl
    cbv
    refine zG (fun e2 => ?_) (fun e2 => ?_)
    · have h34 : 1 + v = 3 ∨ 1 + v = 4 := by exact om
      rw [if_pos h34] at g2
      have q1 := cN n a1 oM oM ha1
      have ha2 := hNl a1 ha1
      have hi := hNn n a1 oM
      generalize fdN raw n a1 = i at *
      generalize na raw a1 = a2 at *
      have q2 := cQ a2 ha2
      have ha3 := hQl a2 ha2
      have hf := hQf a2
      generalize fdQ raw a2 = X at *
      obtain ⟨x, a3⟩ := X
      dsimp only at q2 ha3 hf g2
      obtain ⟨Y, hY⟩ := ex (zK x)
      rw [hY] at q2 g2
      cbv
      refine kA (fun _ => 8) q1 ?_
      cbv
      refine kA (fun _ => 8) q2 ?_
      cbv
      refine Qz JC rfl rfl rfl (by simp [zB]) rfl ⟨by simp [zI, y7]⟩ (zV oM (by simp [zI, zB]; exact om)) rfl ?_
      cbv
      refine ⟨zE om om, (j, a3, p ++ [⟨((1 + v : Nat) : Int), (i : Int), Y⟩]), ⟨ha3, g2, ⟨fun d hd => by
        rcases wZ.1 hd with hd | hd
        · exact g3.d d hd
        · obtain rfl := fZ.1 hd
          exact .inr ⟨by grind, by grind, by grind, x, hf, hY.symm⟩⟩, by show (p ++ [_]).length + j ≤ 3; simp; omega⟩, oM, .le okZ ?_ rfl⟩
      cbv
      refine ⟨okA, okA, ⟨lR, lR, lR, lR, lR, lR, lR, lR, lR, lR, zR rfl (by simp [zI, zB]), lR, trivial⟩, zC ?_, trivial⟩
      rw [← bN]
      rfl
    have h34 : ¬ (1 + v = 3 ∨ 1 + v = 4) := by exact om
    rw [if_neg h34] at g2
    cbv
    refine zG (fun e3 => ?_) (fun e3 => ?_)
    · have hm : m = 0 := by simp only [zB] at e3; exact om
      rw [if_pos hm] at g2
      cbv
      exact ⟨zE om om, (j, a1, p), ⟨ha1, g2, g3, by grind⟩, oM, wkZ⟩
    have hm : m ≠ 0 := by simp only [zB] at e3; exact om
    rw [if_neg hm] at g2
    have q1 := cN m a1 oM oM ha1
    have ha2 := hNl a1 ha1
    have hi := hNn m a1 oM
    generalize fdN raw m a1 = i at *
    generalize na raw a1 = a2 at *
    have d1 := cD p 1 (i : Int) g3 oM
    have d2 := cD p 2 (i : Int) g3 oM
    generalize hx1 : (⟨⟨⟨(n : Int), gus, gos⟩, ⟨lo, hi', rows⟩, ⟨ts, c⟩⟩, p, []⟩ : Scp).dcd 1 (i : Int) = x1 at *
    generalize hx2 : (⟨⟨⟨(n : Int), gus, gos⟩, ⟨lo, hi', rows⟩, ⟨ts, c⟩⟩, p, []⟩ : Scp).dcd 2 (i : Int) = x2 at *
    clear hx1 hx2
    cbv
    refine kB (fun _ => 8) (.refl _) rfl (by exact ⟨lR, zF (by simp [zB, hq2]), trivial⟩) q1 ?_
    cbv
    have hsl : ∀ q : List Dec, ((enc dc q).drop 0).take q.length = enc dc q := fun q => by rw [vS, yU (by simp [zB])]
    refine j4 (.lend 68 54 rfl rfl ?_) rfl ?_ d1 rfl ?_
    · cbv
      repeat' first | exact trivial | exact z6 (by simp [zB]) | apply And.intro
    · cbv
      exact ⟨⟨lR, lR, lR, lR, lR, lR, lR, lR, lR, lR, zU (hsl p), xC rfl, trivial⟩, lR, lR, trivial⟩
    cbv
    refine yI (fun e4 => ?_) (fun e4 => ?_)
    · rw [if_pos (.inl e4)] at g2
      cbv
      exact ⟨zE om om, (j, a2, p), ⟨ha2, g2, g3, by show p.length + j ≤ 3; omega⟩, (by show j < j + 1; omega), wkZ⟩
    cbv
    refine j4 (.lend 68 59 rfl rfl ?_) rfl ?_ d2 rfl ?_
    · cbv
      repeat' first | exact trivial | exact z6 (by simp [zB]) | apply And.intro
    · cbv
      exact ⟨⟨lR, lR, lR, lR, lR, lR, lR, lR, lR, lR, zU (hsl p), xC rfl, trivial⟩, lR, lR, trivial⟩
    cbv
    refine zZ (fun e5 => ?_) (fun e5 => ?_)
    · rw [if_pos (.inr e5)] at g2
      cbv
      exact ⟨zE om om, (j, a2, p), ⟨ha2, g2, g3, by show p.length + j ≤ 3; omega⟩, (by show j < j + 1; omega), wkZ⟩
    rw [if_neg (by rw [e4, e5]; simp)] at g2
    cbv
    refine Qz JC rfl rfl rfl (by simp [zB]) rfl ⟨by simp [zI, y7]⟩ (zV (by simp [zI] <;> omega) (by simp [zI, zB]; exact om)) rfl ?_
    cbv
    refine ⟨zE om om, (j, a2, p ++ [⟨((1 + v : Nat) : Int), (i : Int), R0⟩]), ⟨ha2, g2, ⟨fun d hd => by
      rcases wZ.1 hd with hd | hd
      · exact g3.d d hd
      · obtain rfl := fZ.1 hd
        exact .inl ⟨by show ((1 + v : Nat) : Int) = 1 ∨ ((1 + v : Nat) : Int) = 2; exact om, by show (0 : Int) ≤ (i : Int); omega, by show (i : Int) < m; omega, rfl⟩⟩, by show (p ++ [_]).length + j ≤ 3; simp; omega⟩, (by show j < j + 1; omega), .le okZ ?_ rfl⟩
    cbv
    refine ⟨okA, okA, ⟨lR, lR, lR, lR, lR, lR, lR, lR, lR, lR, zR rfl (by simp [zI, zB]), lR, trivial⟩, zC ?_, trivial⟩
    rw [← bN]
    rfl
  · have hk : k = 0 := om
    subst hk
    rw [FJ] at g2
    subst g2
    cbv
    refine bW ⟨[(2, .ptr 2 0)], [(2, .box [iV n, alv gus, alv gos, rlv lo, rlv hi', alv rows, tsv ts, zM c.neg, nat c.num, nat c.den, dlv P, .nil])]⟩ (.trans (.le (ps' := ⟨[(2, .ptr 2 0)], [(2, .box [iV n, alv gus, alv gos, rlv lo, rlv hi', alv rows, tsv ts, zM c.neg, nat c.num, nat c.den, zT 68 5 P.length, .nil]), (68, .log 5 (fun _ => enc dc P))]⟩) okZ ?_ rfl) (.trans (.frz 68 rfl rfl (by cbv; repeat' first | exact trivial | exact z6 (by simp [zB]) | apply And.intro) (by cbv; repeat' first | exact trivial | exact z6 (by simp [zB]) | apply And.intro)) (.le okZ ?_ rfl))) rfl ?_
    · cbv
      exact ⟨okA, zC rfl, trivial⟩
    · cbv
      exact ⟨⟨lR, lR, lR, lR, lR, lR, lR, lR, lR, lR, zU (by rw [vS, yU (by simp [zB])]), lR, trivial⟩, trivial⟩
    · cbv
      exact okA
theorem t7 (v:Int):Cn (F.var v).ts:=Cn.nil.cons (by simp) (by grind)
theorem Y7 {f g:F}(hf:Cn f.ts)(hg:Cn g.ts):Cn (f.sub g).ts:=hf.mrg hg
def rV {f:F}{q:Rat}(hf:Cn f.ts):Cn (f.scale q).ts:=Cn.nil.mrg hf
def PC (s:Scp)(r:Row)(hs:s.sz (2^20))(hc:s.q.can)(hn1:1<=s.q.g.n)(hn2:s.q.g.n<=256)(hul:s.q.g.us.length<=1024)(hpl:∀ a,a∈s.q.g.us->a.ts.length<=2000):zH 89 [sv s,rwv r] (.tup [fv ((s.fUn r).getD F.zero),zM ((s.fUn r).isSome)]):=by
 refine sF Tryz.f89 ?_;have hno:¬(0<=r.i/\r.i<s.q.g.us.length)->s.fUn r=none:=λh=>if_neg h;have hyes:∀ p,0<=r.i->r.i<s.q.g.us.length->s.q.g.us[r.i.toNat]?=some p->s.fUn r=unF s r p.f (F.var (s.q.g.n+r.i)) (s.lem r.lo r.i false) (s.lem r.hi r.i true):=λp h1 h2 h3=>by unfold Scp.fUn;grind
 obtain⟨o,ho⟩:∃ o,o=s.fUn r:=⟨_,rfl⟩;rw[<-ho] at hno hyes ⊢;obtain⟨W,hW⟩:∃ W,W=fA (o.getD F.zero):=⟨_,rfl⟩;obtain⟨b,hb⟩:∃ b,b=o.isSome:=⟨_,rfl⟩;rw[show fv (o.getD F.zero)=av W by rw[hW],<-hb];have fin2:∀ f,o=some f->W=fA f/\b=true:=λf h=>by grind
 have fin1:o=none->W=⟨[],R0⟩/\b=false:=λh=>by grind [dP]
 clear hW hb ho;obtain⟨wt,w1,w2,w3⟩:=W;have fin3:o=none->wt=[]/\w1=false/\w2=[]/\w3=[]/\b=false:=λh=>by grind
 clear fin1;by_cases hin:0<=r.i/\r.i<s.q.g.us.length
 rotate_left
 ·(have hnn:=hno hin;have hin':r.i<0\/(0<=r.i/\(s.q.g.us.length:Int)<=r.i):=by omega);obtain⟨⟨⟨gn,us,os⟩,⟨lo,hi,rows⟩,⟨ts,c1,c2,c3⟩⟩,path,lems⟩:=s
  obtain⟨k,i,rlo,rhi⟩:=r;simp only at hin';clear hno hyes fin2 hin;obtain⟨g0,g1,g2,g3,g4⟩:=fin3 hnn;subst g0 g1 g2 g3 g4;cbv;refine zX (λe1=>?_) (λe1=>?_);{cbv;exact rA};{cbv;refine xD (by dsimp only at e1 ⊢;rw[zB];exact om) ?_;cbv;exact rA}
 obtain⟨hi0,hi1⟩:=hin;obtain⟨p,hp⟩:∃ p,s.q.g.us[r.i.toNat]?=some p:=yB oM;have ho:=hyes p hi0 hi1 hp;clear hno hyes;have hpm:=yE hp;have hps:=hs.q.g.us.sz p hpm;obtain⟨hpA,hpc⟩:=hc.us p hpm;have fP:p.f.fl (2^20) 2000:=hps.fl (by decide) (hpl p hpm);have cv:=Zu (s.q.g.n+r.i);have cl:=H0 s r.lo r.i false (hs.lems.mono (by decide));have cu:=H0 s r.hi r.i true (hs.lems.mono (by decide));have fl:=U2 hs.lems (by decide) r.lo r.i false;have fu:=U2 hs.lems (by decide) r.hi r.i true;have cd1:=pR s 1 r.i (hs.path.mono (by decide));have cd2:=pR s 2 r.i (hs.path.mono (by decide));unfold unF onB Va at ho;generalize s.lem r.lo r.i false=l at *;generalize s.lem r.hi r.i true=u at *;generalize s.dcd 1 r.i=dv1 at *;generalize s.dcd 2 r.i=dv2 at *;have fV:=gR (s.q.g.n+r.i);have cV:=t7 (s.q.g.n+r.i);have co:=s32 (-1) (by decide) (by decide);have csl:=s35 (zK (l.getD 0)) (by have:=(z5 fl).n;omega);have csu:=s35 (zK (u.getD 0)) (by have:=(z5 fu).n;omega);rw[yD] at csl csu;have d6:=VC cV hpc fV fP (by decide) (by decide) (by decide) (by decide);have d8:=VC hpc cV fP fV (by decide) (by decide) (by decide) (by decide);have d9:=pT (q:=((-1:Int):Rat)) fP (uZ) (by decide) (by decide) (m:=1) (by decide);have d10:=pT (q:=((-1:Int):Rat)) fV (uZ) (by decide) (by decide) (m:=1) (by decide);have nL:=Xm (zK (l.getD 0));have nU:=Xm (zK (u.getD 0));have d11:=VC hpc (Cn.nil:Cn (F.num (l.getD 0)).ts) fP (j6 fl) (by decide) (by decide) (by decide) (by decide);have d12:=VC (Cn.nil:Cn (F.num (u.getD 0)).ts) hpc (j6 fu) fP (by decide) (by decide) (by decide) (by decide);have d13a:=pT ((fP.sub (j6 fl))) fu (by decide) (by decide) (by decide);have d13d:=s93 (zK (u.getD 0)) (zK (l.getD 0)) ((z5 fu).mono (by decide)) ((z5 fl).mono (by decide));rw[yD,yD] at d13d;have d13b:=pT fV (sQ fu fl) (by decide) (by decide) (by decide);have d13:=VC (rV (Y7 hpc (Cn.nil:Cn (F.num (l.getD 0)).ts))) (rV (q:=u.getD 0-l.getD 0) cV) ((fP.sub (j6 fl)).scale fu) (fV.scale (sQ fu fl)) (by decide) (by decide) (by decide) (by decide);rw[show (((-1:Int):Rat))=(-1:Rat) by rfl] at d9 d10 co;have e7:p.f.add F.zero=p.f:=add_zero hpc;rw[e7] at ho;have cv':fv (F.var (s.q.g.n+r.i))=av (fA (F.var (s.q.g.n+r.i))):=rfl;generalize F.var (s.q.g.n+r.i)=v at *;rw[cv'] at cv;clear cv';generalize l.isSome=low at *;generalize u.isSome=top at *;generalize l.getD 0=lq at *;generalize u.getD 0=uq at *;obtain⟨V1,hV1⟩:=ex (fA v);obtain⟨L,hL⟩:=ex (zK lq);obtain⟨U,hU⟩:=ex (zK uq);obtain⟨M1,hM1⟩:=ex (zK (-1:Rat));obtain⟨X6,hX6⟩:=ex (fA (v.sub p.f));obtain⟨X8,hX8⟩:=ex (fA (p.f.sub v));obtain⟨X9,hX9⟩:=ex (fA (p.f.scale (-1)));obtain⟨X10,hX10⟩:=ex (fA (v.scale (-1)));obtain⟨X11,hX11⟩:=ex (fA (p.f.sub (F.num lq)));obtain⟨X12,hX12⟩:=ex (fA ((F.num uq).sub p.f));obtain⟨Xa,hXa⟩:=ex (fA ((p.f.sub (F.num lq)).scale uq));obtain⟨Xb,hXb⟩:=ex (fA (v.scale (uq-lq)));obtain⟨X13,hX13⟩:=ex (fA (((p.f.sub (F.num lq)).scale uq).sub (v.scale (uq-lq))));obtain⟨Dq,hDq⟩:=ex (zK (uq-lq));have d6':zH 90 [av V1,av p] (av X6):=by subst hV1 hL hU hM1 hX6 hX8 hX9 hX10 hX11 hX12 hXa hXb hX13 hDq;dsimp only [fv] at d6;rw[hpA] at d6;exact d6
 have d8':zH 90 [av p,av V1] (av X8):=by subst hV1 hL hU hM1 hX6 hX8 hX9 hX10 hX11 hX12 hXa hXb hX13 hDq;dsimp only [fv] at d8;rw[hpA] at d8;exact d8
 have d9':zH 24 [av p,rv M1] (av X9):=by subst hV1 hL hU hM1 hX6 hX8 hX9 hX10 hX11 hX12 hXa hXb hX13 hDq;dsimp only [fv] at d9;rw[hpA] at d9;exact d9
 have d10':zH 24 [av V1,rv M1] (av X10):=by subst hV1 hL hU hM1 hX6 hX8 hX9 hX10 hX11 hX12 hXa hXb hX13 hDq;exact d10
 have d11':zH 90 [av p,av ⟨[],L⟩] (av X11):=by subst hV1 hL hU hM1 hX6 hX8 hX9 hX10 hX11 hX12 hXa hXb hX13 hDq;dsimp only [fv] at d11;rw[hpA] at d11;exact d11
 have d12':zH 90 [av ⟨[],U⟩,av p] (av X12):=by subst hV1 hL hU hM1 hX6 hX8 hX9 hX10 hX11 hX12 hXa hXb hX13 hDq;dsimp only [fv] at d12;rw[hpA] at d12;exact d12
 have d13a':zH 24 [av X11,rv U] (av Xa):=by subst hV1 hL hU hM1 hX6 hX8 hX9 hX10 hX11 hX12 hXa hXb hX13 hDq;exact d13a
 have d13d':zH 53 [rv U,rv L] (rv Dq):=by subst hV1 hL hU hM1 hX6 hX8 hX9 hX10 hX11 hX12 hXa hXb hX13 hDq;exact d13d
 have d13b':zH 24 [av V1,rv Dq] (av Xb):=by subst hV1 hL hU hM1 hX6 hX8 hX9 hX10 hX11 hX12 hXa hXb hX13 hDq;exact d13b
 have d13':zH 90 [av Xa,av Xb] (av X13):=by subst hV1 hL hU hM1 hX6 hX8 hX9 hX10 hX11 hX12 hXa hXb hX13 hDq;exact d13
 rw[hV1] at cv;rw[hL] at cl csl nL;rw[hU] at cu csu nU;rw[hM1] at co;clear d6 d8 d9 d10 d11 d12 d13a d13d d13b d13 hs hc hpl fP fV fl fu hps;obtain⟨⟨⟨gn,us,os⟩,⟨lo,hi,rows⟩,⟨ts,c1,c2,c3⟩⟩,path,lems⟩:=s;obtain⟨k,i,rlo,rhi⟩:=r;simp only at hn1 hn2 hul hi0 hi1 hp ho;obtain⟨ip,hip⟩:∃ j:Nat,i=(j:Int):=⟨i.toNat,by omega⟩;subst hip;rw[uF] at hp;generalize yG lq=sl at *;generalize yG uq=su at *;cbv;refine yF (by dsimp only;omega) ?_;cbv;refine yA (by dsimp only;rw[zB];omega) ?_;cbv;refine uB 15 [(14,7)] (by cbv) (by cbv) (by cbv) ?_;cbv;refine⟨zE om om,?_⟩;cbv;refine dA cv ?_;cbv;refine xL hp kX fI ?_;cbv;refine cA cl ?_;cbv;refine cA cu ?_;cbv;refine cA co ?_;cbv;obtain⟨on,hon⟩:∃ on:Bool,(decide (rhi=0)&&((decide (rlo=0)&&dv1) || (low&&decide (0<=sl))))=on:=⟨_,rfl⟩;obtain⟨off,hoff⟩:∃ off:Bool,(decide (rlo=0)&&((decide (rhi=0)&&dv2) || (top&&decide (su<=0))))=off:=⟨_,rfl⟩;refine Kg (σ:=Unit) (λ_=>⟨[(2,.ptr 2 0),(3,.ptr 3 0),(4,.ptr 4 0),(7,.ptr 7 0),(8,.ptr 8 0),(9,.ptr 9 0),(10,zM low),(11,.ptr 11 0),(12,zM top),(13,.ptr 13 0),(14,zM on)],[(2,.box [iV gn,alv us,alv os,rlv lo,rlv hi,alv rows,tsv ts,zM c1,nat c2,nat c3,dlv path,llv lems]),(3,.box [iV k,iV ip,iV rlo,iV rhi]),(4,.box [.nil,.ff,.nil,.nil]),(7,.box [tsv V1.ts,zM V1.c.neg,nat V1.c.num,nat V1.c.den]),(8,.box [tsv p.ts,zM p.c.neg,nat p.c.num,nat p.c.den]),(9,.box [zM L.neg,nat L.num,nat L.den]),(11,.box [zM U.neg,nat U.num,nat U.den]),(13,.box [zM M1.neg,nat M1.num,nat M1.den])]⟩) (λ_=>True) ?_ (λ_ _=>?_)
 ·skip
  cbv;refine zX (λe1=>?_) (λe1=>?_)
  ·(try dsimp only at e1)
   cbv;refine zX (λe2=>?_) (λe2=>?_)
   ·(try dsimp only at e2)
    cbv;refine cA cd1 ?_;cbv;refine yI (λe3=>?_) (λe3=>?_);{cbv;exact⟨(),trivial,.le (by cbv;repeat' first|exact trivial|exact lR|exact z4 (by rw[<-hon];simp[e1,e2,e3])|exact zO (by rw[<-hon];simp[e1,e2,e3])|exact yN (by rw[<-hon];simp[e1,e2,e3])|apply And.intro) okZ rfl⟩};{cbv;refine yI (λe4=>?_) (λe4=>?_);{cbv;refine cA csl ?_;cbv;exact⟨(),trivial,.le (by cbv;repeat' first|exact trivial|exact lR|exact z4 (by rw[<-hon];simp[e1,e2,e3,e4])|exact zO (by rw[<-hon];simp[e1,e2,e3,e4])|exact yN (by rw[<-hon];simp[e1,e2,e3,e4])|apply And.intro) okZ rfl⟩};{cbv;exact⟨(),trivial,.le (by cbv;repeat' first|exact trivial|exact lR|exact z4 (by rw[<-hon];simp[e1,e2,e3,e4])|exact zO (by rw[<-hon];simp[e1,e2,e3,e4])|exact yN (by rw[<-hon];simp[e1,e2,e3,e4])|apply And.intro) okZ rfl⟩}}
   ·(try dsimp only at e2)
    cbv;refine yI (λe4=>?_) (λe4=>?_);{cbv;refine cA csl ?_;cbv;exact⟨(),trivial,.le (by cbv;repeat' first|exact trivial|exact lR|exact z4 (by rw[<-hon];simp[e1,e2,e4])|exact zO (by rw[<-hon];simp[e1,e2,e4])|exact yN (by rw[<-hon];simp[e1,e2,e4])|apply And.intro) okZ rfl⟩};{cbv;exact⟨(),trivial,.le (by cbv;repeat' first|exact trivial|exact lR|exact z4 (by rw[<-hon];simp[e1,e2,e4])|exact zO (by rw[<-hon];simp[e1,e2,e4])|exact yN (by rw[<-hon];simp[e1,e2,e4])|apply And.intro) okZ rfl⟩}
  {cbv;exact⟨(),trivial,.le (by cbv;repeat' first|exact trivial|exact lR|exact z4 (by rw[<-hon];simp[e1])|exact zO (by rw[<-hon];simp[e1])|exact yN (by rw[<-hon];simp[e1])|apply And.intro) okZ rfl⟩}
 cbv;refine Kg (σ:=Unit) (λ_=>⟨[(2,.ptr 2 0),(3,.ptr 3 0),(4,.ptr 4 0),(7,.ptr 7 0),(8,.ptr 8 0),(9,.ptr 9 0),(10,zM low),(11,.ptr 11 0),(12,zM top),(13,.ptr 13 0),(14,zM on),(15,zM off)],[(2,.box [iV gn,alv us,alv os,rlv lo,rlv hi,alv rows,tsv ts,zM c1,nat c2,nat c3,dlv path,llv lems]),(3,.box [iV k,iV ip,iV rlo,iV rhi]),(4,.box [.nil,.ff,.nil,.nil]),(7,.box [tsv V1.ts,zM V1.c.neg,nat V1.c.num,nat V1.c.den]),(8,.box [tsv p.ts,zM p.c.neg,nat p.c.num,nat p.c.den]),(9,.box [zM L.neg,nat L.num,nat L.den]),(11,.box [zM U.neg,nat U.num,nat U.den]),(13,.box [zM M1.neg,nat M1.num,nat M1.den])]⟩) (λ_=>True) ?_ (λ_ _=>?_)
 ·skip
  cbv;refine zX (λe1=>?_) (λe1=>?_)
  ·(try dsimp only at e1)
   cbv;refine zX (λe2=>?_) (λe2=>?_)
   ·(try dsimp only at e2)
    cbv;refine cA cd2 ?_;cbv;refine yI (λe3=>?_) (λe3=>?_);{cbv;exact⟨(),trivial,.le (by cbv;repeat' first|exact trivial|exact lR|exact z4 (by rw[<-hoff];simp[e1,e2,e3])|exact zO (by rw[<-hoff];simp[e1,e2,e3])|exact yN (by rw[<-hoff];simp[e1,e2,e3])|apply And.intro) okZ rfl⟩};{cbv;refine yI (λe4=>?_) (λe4=>?_);{cbv;refine cA csu ?_;cbv;exact⟨(),trivial,.le (by cbv;repeat' first|exact trivial|exact lR|exact z4 (by rw[<-hoff];simp[e1,e2,e3,e4])|exact zO (by rw[<-hoff];simp[e1,e2,e3,e4])|exact yN (by rw[<-hoff];simp[e1,e2,e3,e4])|apply And.intro) okZ rfl⟩};{cbv;exact⟨(),trivial,.le (by cbv;repeat' first|exact trivial|exact lR|exact z4 (by rw[<-hoff];simp[e1,e2,e3,e4])|exact zO (by rw[<-hoff];simp[e1,e2,e3,e4])|exact yN (by rw[<-hoff];simp[e1,e2,e3,e4])|apply And.intro) okZ rfl⟩}}
   ·(try dsimp only at e2)
    cbv;refine yI (λe4=>?_) (λe4=>?_);{cbv;refine cA csu ?_;cbv;exact⟨(),trivial,.le (by cbv;repeat' first|exact trivial|exact lR|exact z4 (by rw[<-hoff];simp[e1,e2,e4])|exact zO (by rw[<-hoff];simp[e1,e2,e4])|exact yN (by rw[<-hoff];simp[e1,e2,e4])|apply And.intro) okZ rfl⟩};{cbv;exact⟨(),trivial,.le (by cbv;repeat' first|exact trivial|exact lR|exact z4 (by rw[<-hoff];simp[e1,e2,e4])|exact zO (by rw[<-hoff];simp[e1,e2,e4])|exact yN (by rw[<-hoff];simp[e1,e2,e4])|apply And.intro) okZ rfl⟩}
  {cbv;exact⟨(),trivial,.le (by cbv;repeat' first|exact trivial|exact lR|exact z4 (by rw[<-hoff];simp[e1])|exact zO (by rw[<-hoff];simp[e1])|exact yN (by rw[<-hoff];simp[e1])|apply And.intro) okZ rfl⟩}
 cbv;have hk:k=5\/k=6\/k=7\/k=8\/k=9\/k=10\/k=11\/k=12\/k=13\/(k<=4\/14<=k):=by omega
 simp only[hon,hoff,Row.plain] at ho;clear cd1 cd2 cl cu co cv hon hoff;rcases hk with rfl|rfl|rfl|rfl|rfl|rfl|rfl|rfl|rfl|hk
 ·as_aux_lemma =>
   rw[if_pos rfl] at ho;have T:=λ(h:(decide (rlo=0)&&decide (rhi=0))=true)=>fin2 (v) (by rw[ho];exact if_pos h);have N:=λ(h:¬((decide (rlo=0)&&decide (rhi=0))=true))=>fin3 (by rw[ho];exact if_neg h);rw[hV1] at T;clear ho fin2 fin3;refine xD (by simp) ?_;cbv;refine uB 10 [(9,16)] (by cbv) (by cbv) (by cbv) ?_;cbv;refine zX (λe1=>?_) (λe1=>?_);{cbv;refine zZ (λe9=>?_) (λe9=>?_);{cbv;obtain⟨g1,g2⟩:=T (by simp_all);cases g1;subst g2;exact rA};{cbv;obtain⟨g0,g1,g2,g3,g4⟩:=N (by simp_all);subst g0 g1 g2 g3 g4;exact rA}};{cbv;obtain⟨g0,g1,g2,g3,g4⟩:=N (by simp_all);subst g0 g1 g2 g3 g4;exact rA}
 ·as_aux_lemma =>
   rw[if_neg (by decide),if_pos rfl] at ho;have T:=λ(h:(decide (rlo=0)&&decide (rhi=0))=true)=>fin2 (v.sub p.f) (by rw[ho];exact if_pos h);have N:=λ(h:¬((decide (rlo=0)&&decide (rhi=0))=true))=>fin3 (by rw[ho];exact if_neg h);rw[hX6] at T;clear ho fin2 fin3;refine yA (by simp) ?_;cbv;refine xD (by simp) ?_;cbv;refine uB 12 [(11,16)] (by cbv) (by cbv) (by cbv) ?_;cbv;refine dA d6' ?_;cbv;refine zX (λe1=>?_) (λe1=>?_);{cbv;refine zZ (λe9=>?_) (λe9=>?_);{cbv;obtain⟨g1,g2⟩:=T (by simp_all);cases g1;subst g2;exact rA};{cbv;obtain⟨g0,g1,g2,g3,g4⟩:=N (by simp_all);subst g0 g1 g2 g3 g4;exact rA}};{cbv;obtain⟨g0,g1,g2,g3,g4⟩:=N (by simp_all);subst g0 g1 g2 g3 g4;exact rA}
 ·as_aux_lemma =>
   rw[if_neg (by decide),if_neg (by decide),if_pos rfl] at ho;have T:=λ(h:on=true)=>fin2 (p.f) (by rw[ho];exact if_pos h);have N:=λ(h:¬(on=true))=>fin3 (by rw[ho];exact if_neg h);rw[hpA] at T;clear ho fin2 fin3;refine yA (by simp) ?_;cbv;refine yA (by simp) ?_;cbv;refine xD (by simp) ?_;cbv;refine zZ (λe9=>?_) (λe9=>?_);{cbv;obtain⟨g1,g2⟩:=T (by simp_all);cases g1;subst g2;exact rA};{cbv;obtain⟨g0,g1,g2,g3,g4⟩:=N (by simp_all);subst g0 g1 g2 g3 g4;exact rA}
 ·as_aux_lemma =>
   rw[if_neg (by decide),if_neg (by decide),if_neg (by decide),if_pos rfl] at ho;have T:=λ(h:on=true)=>fin2 (p.f.sub v) (by rw[ho];exact if_pos h);have N:=λ(h:¬(on=true))=>fin3 (by rw[ho];exact if_neg h);rw[hX8] at T;clear ho fin2 fin3;refine yA (by simp) ?_;cbv;refine yA (by simp) ?_;cbv;refine yA (by simp) ?_;cbv;refine xD (by simp) ?_;cbv;refine cA d8' ?_;cbv;refine zZ (λe9=>?_) (λe9=>?_);{cbv;obtain⟨g1,g2⟩:=T (by simp_all);cases g1;subst g2;exact rA};{cbv;obtain⟨g0,g1,g2,g3,g4⟩:=N (by simp_all);subst g0 g1 g2 g3 g4;exact rA}
 ·as_aux_lemma =>
   rw[if_neg (by decide),if_neg (by decide),if_neg (by decide),if_neg (by decide),if_pos rfl] at ho;have T:=λ(h:off=true)=>fin2 (p.f.scale (-1)) (by rw[ho];exact if_pos h);have N:=λ(h:¬(off=true))=>fin3 (by rw[ho];exact if_neg h);rw[hX9] at T;clear ho fin2 fin3;refine yA (by simp) ?_;cbv;refine yA (by simp) ?_;cbv;refine yA (by simp) ?_;cbv;refine yA (by simp) ?_;cbv;refine xD (by simp) ?_;cbv;refine cA d9' ?_;cbv;refine zZ (λe9=>?_) (λe9=>?_);{cbv;obtain⟨g1,g2⟩:=T (by simp_all);cases g1;subst g2;exact rA};{cbv;obtain⟨g0,g1,g2,g3,g4⟩:=N (by simp_all);subst g0 g1 g2 g3 g4;exact rA}
 ·as_aux_lemma =>
   rw[if_neg (by decide),if_neg (by decide),if_neg (by decide),if_neg (by decide),if_neg (by decide),if_pos rfl] at ho;have T:=λ(h:off=true)=>fin2 (v.scale (-1)) (by rw[ho];exact if_pos h);have N:=λ(h:¬(off=true))=>fin3 (by rw[ho];exact if_neg h);rw[hX10] at T;clear ho fin2 fin3;refine yA (by simp) ?_;cbv;refine yA (by simp) ?_;cbv;refine yA (by simp) ?_;cbv;refine yA (by simp) ?_;cbv;refine yA (by simp) ?_;cbv;refine xD (by simp) ?_;cbv;refine cA d10' ?_;cbv;refine zZ (λe9=>?_) (λe9=>?_);{cbv;obtain⟨g1,g2⟩:=T (by simp_all);cases g1;subst g2;exact rA};{cbv;obtain⟨g0,g1,g2,g3,g4⟩:=N (by simp_all);subst g0 g1 g2 g3 g4;exact rA}
 ·as_aux_lemma =>
   rw[if_neg (by decide),if_neg (by decide),if_neg (by decide),if_neg (by decide),if_neg (by decide),if_neg (by decide),if_pos rfl] at ho;have T:=λ(h:low=true/\rhi=0)=>fin2 (p.f.sub (F.num lq)) (by rw[ho];exact if_pos h);have N:=λ(h:¬(low=true/\rhi=0))=>fin3 (by rw[ho];exact if_neg h);rw[hX11] at T;clear ho fin2 fin3;refine yA (by simp) ?_;cbv;refine yA (by simp) ?_;cbv;refine yA (by simp) ?_;cbv;refine yA (by simp) ?_;cbv;refine yA (by simp) ?_;cbv;refine yA (by simp) ?_;cbv;refine xD (by simp) ?_;cbv;refine uB 11 [(10,16)] (by cbv) (by cbv) (by cbv) ?_;cbv;refine dA nL ?_;cbv;refine dA d11' ?_;cbv;refine yI (λe1=>?_) (λe1=>?_);{cbv;refine zZ (λe9=>?_) (λe9=>?_);{cbv;obtain⟨g1,g2⟩:=T (by simp_all);cases g1;subst g2;exact rA};{cbv;obtain⟨g0,g1,g2,g3,g4⟩:=N (by simp_all);subst g0 g1 g2 g3 g4;exact rA}};{cbv;obtain⟨g0,g1,g2,g3,g4⟩:=N (by simp_all);subst g0 g1 g2 g3 g4;exact rA}
 ·as_aux_lemma =>
   rw[if_neg (by decide),if_neg (by decide),if_neg (by decide),if_neg (by decide),if_neg (by decide),if_neg (by decide),if_neg (by decide),if_pos rfl] at ho;have T:=λ(h:top=true/\rlo=0)=>fin2 ((F.num uq).sub p.f) (by rw[ho];exact if_pos h);have N:=λ(h:¬(top=true/\rlo=0))=>fin3 (by rw[ho];exact if_neg h);rw[hX12] at T;clear ho fin2 fin3;refine yA (by simp) ?_;cbv;refine yA (by simp) ?_;cbv;refine yA (by simp) ?_;cbv;refine yA (by simp) ?_;cbv;refine yA (by simp) ?_;cbv;refine yA (by simp) ?_;cbv;refine yA (by simp) ?_;cbv;refine xD (by simp) ?_;cbv;refine uB 11 [(10,16)] (by cbv) (by cbv) (by cbv) ?_;cbv;refine dA nU ?_;cbv;refine dA d12' ?_;cbv;refine yI (λe1=>?_) (λe1=>?_);{cbv;refine zZ (λe9=>?_) (λe9=>?_);{cbv;obtain⟨g1,g2⟩:=T (by simp_all);cases g1;subst g2;exact rA};{cbv;obtain⟨g0,g1,g2,g3,g4⟩:=N (by simp_all);subst g0 g1 g2 g3 g4;exact rA}};{cbv;obtain⟨g0,g1,g2,g3,g4⟩:=N (by simp_all);subst g0 g1 g2 g3 g4;exact rA}
 ·as_aux_lemma =>
   rw[if_neg (by decide),if_neg (by decide),if_neg (by decide),if_neg (by decide),if_neg (by decide),if_neg (by decide),if_neg (by decide),if_neg (by decide),if_pos rfl] at ho;have T:=λ(h:low=true/\top=true/\sl<0/\0<su)=>fin2 (((p.f.sub (F.num lq)).scale uq).sub (v.scale (uq-lq))) (by rw[ho];exact if_pos h);have N:=λ(h:¬(low=true/\top=true/\sl<0/\0<su))=>fin3 (by rw[ho];exact if_neg h);rw[hX13] at T;clear ho fin2 fin3;refine yA (by simp) ?_;cbv;refine yA (by simp) ?_;cbv;refine yA (by simp) ?_;cbv;refine yA (by simp) ?_;cbv;refine yA (by simp) ?_;cbv;refine yA (by simp) ?_;cbv;refine yA (by simp) ?_;cbv;refine yA (by simp) ?_;cbv;refine xD (by simp) ?_;cbv;refine dR 7 (by cbv) (by cbv) ?_;cbv;refine dA nL ?_;cbv;refine dA d11' ?_;cbv;refine dA d13a' ?_;cbv;refine uB 22 [(21,16)] (by cbv) (by cbv) (by cbv) ?_;cbv;refine dA d13d' ?_;cbv;refine dA d13b' ?_;cbv;refine dA d13' ?_;cbv;refine yI (λe1=>?_) (λe1=>?_);{cbv;refine yI (λe2=>?_) (λe2=>?_);{cbv;refine dA csl ?_;cbv;refine zX (λe3=>?_) (λe3=>?_);{cbv;refine dA csu ?_;cbv;refine zZ (λe9=>?_) (λe9=>?_);{cbv;obtain⟨g1,g2⟩:=T (by simp_all);cases g1;subst g2;exact rA};{cbv;obtain⟨g0,g1,g2,g3,g4⟩:=N (by simp_all);subst g0 g1 g2 g3 g4;exact rA}};{cbv;obtain⟨g0,g1,g2,g3,g4⟩:=N (λh=>e3 h.2.2.1);subst g0 g1 g2 g3 g4;exact rA}};{cbv;obtain⟨g0,g1,g2,g3,g4⟩:=N (by simp_all);subst g0 g1 g2 g3 g4;exact rA}};{cbv;obtain⟨g0,g1,g2,g3,g4⟩:=N (by simp_all);subst g0 g1 g2 g3 g4;exact rA}
 ·as_aux_lemma =>
   have N:=λ(_:True)=>fin3 (by rw[ho,if_neg oM,if_neg oM,if_neg oM,if_neg oM,if_neg oM,if_neg oM,if_neg oM,if_neg oM,if_neg oM]);refine yA oM ?_;cbv;refine yA oM ?_;cbv;refine yA oM ?_;cbv;refine yA oM ?_;cbv;refine yA oM ?_;cbv;refine yA oM ?_;cbv;refine yA oM ?_;cbv;refine yA oM ?_;cbv;refine yA oM ?_;cbv;obtain⟨g0,g1,g2,g3,g4⟩:=N (trivial);subst g0 g1 g2 g3 g4;exact rA
end Go.Proofs.YtboocdbmnfjomaaGreat
