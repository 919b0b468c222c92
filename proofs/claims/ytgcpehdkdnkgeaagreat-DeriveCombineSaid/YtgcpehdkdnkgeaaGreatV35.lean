/- A part of the proof: FdD, RtB. -/
import Derived.Test.YtgcpehdkdnkgeaaGreatV34
import Derived.Test.YtgcpehdkdnkgeaaGreatV33
import Derived.Test.YtgcpehdkdnkgeaaGreatV29
set_option linter.all false
namespace Go.Proofs.YtgcpehdkdnkgeaaGreat
open Go
set_option maxRecDepth 100000
set_option maxHeartbeats 4000000
theorem rY:ty 41=.sli 5 72 [.int .i64 (fun _=>0),.int .i64 (fun _=>0),.ff,.nil,.nil]:=by cbv
theorem zII (raw:List UInt8)(q:Qry)(n m a:Nat)(p:List Dec):rI raw q n m 0 p a=p:=rfl
theorem zIJ (raw:List UInt8)(q:Qry)(n m k a:Nat)(p:List Dec):rI raw q n m (k+1) p a =
  (if 1+fdN raw 4 a=3∨1+fdN raw 4 a=4 then rI raw q n m k (p++[⟨((1+fdN raw 4 a:Nat):Int),fdN raw n (na raw a),zJ (fdQ raw (na raw (na raw a))).1⟩]) (fdQ raw (na raw (na raw a))).2
  else if m=0 then rI raw q n m k p (na raw a)
  else if (⟨q,p,[]⟩:Scp).dcd 1 (fdN raw m (na raw a))=true∨(⟨q,p,[]⟩:Scp).dcd 2 (fdN raw m (na raw a))=true then rI raw q n m k p (na raw (na raw a))
  else rI raw q n m k (p++[⟨((1+fdN raw 4 a:Nat):Int),fdN raw m (na raw a),R0⟩]) (na raw (na raw a))):=rfl
theorem PathOk.dsz {n m k:Nat}{p:List Dec}(h:PathOk n m p)(hl:p.length<2^38)(hk:1≤k):Dsz k p:=⟨hl,fun d hd=>by
 rcases h.d d hd with ⟨_,_,_,h⟩ | ⟨_,_,_,q,hq,h⟩
 ·rw[h];exact⟨Nat.zero_le _,Nat.zero_le _⟩
 ·rw[h];exact z8 (hq.mono hk)⟩
abbrev svN (s:Scp):PV:=.agg [.int .i64 (fun _=>s.q.g.n),alv s.q.g.us,alv s.q.g.os,rlv s.q.r.lo,rlv s.q.r.hi,alv s.q.r.rows,tsv s.q.goal.ts,.bool (fun _=>s.q.goal.c.neg),nat s.q.goal.c.num,nat s.q.goal.c.den,dlv s.path,.nil]
theorem zJL (raw : List UInt8) (hr : raw.length < 2^38) : zE 42 [u8v raw] (svN (fdS raw)) := by
  refine sF Tryz.f42 ?_
  have c0 := zQN raw hr
  have c1 := zSD raw 0 hr (Nat.zero_le _)
  have sm := v5 raw 0
  have b1 := zQ9 (raw := raw) (a := 0) (Nat.zero_le _)
  have c2 := gO raw (fdY raw 0).2 4 hr (by decide) (by decide) b1
  have cN : ∀ m b : Nat, 0 < m → m < 2^60 → b ≤ raw.length → Sound 103 [.ptr 1000000 0, .int .i64 (fun _ => (m : Int))] (fdo raw b) [] (.int .i64 (fun _ => (fdN raw m b : Int))) (fdo raw (na raw b)) [] := fun m b h1 h2 h3 => gO raw b m hr h1 h2 h3
  have cQ : ∀ b : Nat, b ≤ raw.length → Sound 104 [.ptr 1000000 0] (fdo raw b) [] (rv (zJ (fdQ raw b).1)) (fdo raw (fdQ raw b).2) [] := fun b h1 => zFY raw b hr h1
  have hQl : ∀ b : Nat, b ≤ raw.length → (fdQ raw b).2 ≤ raw.length := fun b h => pE h
  have hQf : ∀ b : Nat, Fits 1 (fdQ raw b).1 := fun b => uQ raw b
  have hNl : ∀ b : Nat, b ≤ raw.length → na raw b ≤ raw.length := fun b h => jE h
  have hN4 : ∀ b : Nat, fdN raw 4 b < 4 := fun b => uR (by decide)
  have hNn : ∀ m b : Nat, 0 < m → fdN raw m b < m := fun m b h => uR h
  have n1 := sm.g.n1
  have n2 := sm.g.n2
  have u4 := sm.g.us
  have hq1 : (fdY raw 0).1.q.g.n = ((fdY raw 0).1.g.n : Int) := rfl
  have hq2 : (fdY raw 0).1.q.g.us.length = (fdY raw 0).1.g.us.length := by show (List.map fA _).length = _; rw [List.length_map]
  obtain ⟨P, hP⟩ : ∃ P, (fdS raw).path = P := ⟨_, rfl⟩
  have hP' : P = rI raw (fdY raw 0).1.q (fdY raw 0).1.g.n (fdY raw 0).1.g.us.length (fdN raw 4 (fdY raw 0).2) [] (na raw (fdY raw 0).2) := hP.symm
  have hS : fdS raw = ⟨(fdY raw 0).1.q, P, []⟩ := by rw [← hP]; rfl
  rw [hS]
  have k4 := hN4 (fdY raw 0).2
  have ak := hNl _ b1
  clear hS hP sm
  generalize fdN raw 4 (fdY raw 0).2 = k0 at *
  generalize na raw (fdY raw 0).2 = a0 at *
  generalize (fdY raw 0).2 = a00 at *
  generalize (fdY raw 0).1.g.n = n at *
  generalize (fdY raw 0).1.g.us.length = m at *
  generalize (fdY raw 0).1.q = Q at *
  obtain ⟨⟨gn, gus, gos⟩, ⟨lo, hi', rows⟩, ⟨ts, c⟩⟩ := Q
  dsimp only at hq1 hq2
  subst hq1
  have cD : ∀ (p : List Dec) (k u : Int), PathOk n m p → p.length ≤ 3 → zE 85 [.agg [.int .i64 (fun _ => (n : Int)), alv gus, alv gos, rlv lo, rlv hi', alv rows, tsv ts, .bool (fun _ => c.neg), nat c.num, nat c.den, dlv p, llv []], .int .i64 (fun _ => k), .int .i64 (fun _ => u)] (.bool (fun _ => (⟨⟨⟨(n : Int), gus, gos⟩, ⟨lo, hi', rows⟩, ⟨ts, c⟩⟩, p, []⟩ : Scp).dcd k u)) :=
    fun p k u h1 h2 => bK ⟨⟨⟨(n : Int), gus, gos⟩, ⟨lo, hi', rows⟩, ⟨ts, c⟩⟩, p, []⟩ k u (h1.dsz (by omega) (by decide))
  cbv
  refine y8 (fun _ => 8) (.refl _) rfl okA c0 trivial rfl rfl rfl rfl rfl rfl rfl rfl ?_
  cbv
  refine y8 (fun _ => 8) (.refl _) rfl okA c1 ⟨⟨rfl, rfl⟩, trivial⟩ rfl rfl rfl rfl rfl rfl rfl rfl ?_
  cbv
  refine y8 (fun _ => 8) (.refl _) rfl okA c2 ⟨⟨rfl, rfl⟩, trivial⟩ rfl rfl rfl rfl rfl rfl rfl rfl ?_
  cbv
  refine zY (σ := Nat × Nat × List Dec) (fun s => ⟨[(2, .ptr 2 0), (3, .ptr 8 0), (4, .ptr 4 0), (5, .int .i64 (fun _ => (s.1 : Int)))],
      [(2, .box [.int .i64 (fun _ => 0), .nil, .nil, .nil, .nil, .nil, .nil, .ff, .nil, .nil, .nil, .nil]), (8, .box [u8v raw, .int .i64 (fun _ => (s.2.1 : Int))]),
       (4, .box [.int .i64 (fun _ => (n : Int)), alv gus, alv gos, rlv lo, rlv hi', alv rows, tsv ts, .bool (fun _ => c.neg), nat c.num, nat c.den, .osl 68 5 (fun _ => 0) (fun _ => s.2.2.length), .nil]), (68, .log 5 (fun _ => enc dc s.2.2))]⟩)
    (fun s => s.2.1 ≤ raw.length ∧ P = rI raw ⟨⟨(n : Int), gus, gos⟩, ⟨lo, hi', rows⟩, ⟨ts, c⟩⟩ n m s.1 s.2.2 s.2.1 ∧ PathOk n m s.2.2 ∧ s.2.2.length + s.1 ≤ 3) (fun s => s.1)
    (k0, a0, []) ⟨ak, hP', ⟨fun d hd => absurd hd (by simp)⟩, by show 0 + k0 ≤ 3; omega⟩
    (.trans (.le (ps' := ⟨[(2, .ptr 2 0), (3, .ptr 8 0), (4, .ptr 4 0), (5, .int .i64 (fun _ => (k0 : Int)))],
      [(2, .box [.int .i64 (fun _ => 0), .nil, .nil, .nil, .nil, .nil, .nil, .ff, .nil, .nil, .nil, .nil]), (8, .box [u8v raw, .int .i64 (fun _ => (a0 : Int))]),
       (4, .box [.int .i64 (fun _ => (n : Int)), alv gus, alv gos, rlv lo, rlv hi', alv rows, tsv ts, .bool (fun _ => c.neg), nat c.num, nat c.den, .nil, .nil])]⟩) okZ okZ rfl)
    (.trans (.adoptB (ps := ⟨[(2, .ptr 2 0), (3, .ptr 8 0), (4, .ptr 4 0), (5, .int .i64 (fun _ => (k0 : Int)))],
      [(2, .box [.int .i64 (fun _ => 0), .nil, .nil, .nil, .nil, .nil, .nil, .ff, .nil, .nil, .nil, .nil]), (8, .box [u8v raw, .int .i64 (fun _ => (a0 : Int))]),
       (4, .box [.int .i64 (fun _ => (n : Int)), alv gus, alv gos, rlv lo, rlv hi', alv rows, tsv ts, .bool (fun _ => c.neg), nat c.num, nat c.den, .nil, .nil])]⟩)
      (cs := [.int .i64 (fun _ => (n : Int)), alv gus, alv gos, rlv lo, rlv hi', alv rows, tsv ts, .bool (fun _ => c.neg), nat c.num, nat c.den, .nil, .nil]) 68 5 4 10 rfl rfl rfl)
    (.trans (.lend 68 5 rfl rfl trivial) (.le okZ ?_ rfl)))) ?_
  · cbv
    exact ⟨okA, okA, okA, zF rfl, trivial⟩
  clear c0 c1 c2 hP' ak b1 k4
  intro s hs
  obtain ⟨k, a, p⟩ := s
  obtain ⟨g1, g2, g3, g4⟩ := hs
  dsimp only at g1 g2 g3 g4
  cbv
  refine zH (fun h => ?_) (fun h => ?_)
  · obtain ⟨j, hj⟩ : ∃ j, k = j + 1 := ⟨k - 1, by (try dsimp only [zG] at *); omega⟩
    subst hj
    rw [zIJ] at g2
    have n1 := cN 4 a (by decide) (by decide) g1
    have hv := hN4 a
    have ha1 := hNl a g1
    generalize fdN raw 4 a = v at *
    generalize na raw a = a1 at *
    cbv
    refine y8 (fun _ => 8) (.refl _) rfl okA n1 ⟨⟨rfl, rfl⟩, trivial⟩ rfl rfl rfl rfl rfl rfl rfl rfl ?_
    cbv
    refine ⟨zD om om, ?_⟩
    cbv
    refine zR (fun e1 => ?_) (fun e1 => ?_)
    · have h34 : 1 + v = 3 ∨ 1 + v = 4 := by (try dsimp only [zG] at *); omega
      rw [if_pos h34] at g2
      have q1 := cN n a1 (by omega) (by omega) ha1
      have ha2 := hNl a1 ha1
      have hi := hNn n a1 (by omega)
      generalize fdN raw n a1 = i at *
      generalize na raw a1 = a2 at *
      have q2 := cQ a2 ha2
      have ha3 := hQl a2 ha2
      have hf := hQf a2
      generalize fdQ raw a2 = X at *
      obtain ⟨x, a3⟩ := X
      dsimp only at q2 ha3 hf g2
      obtain ⟨Y, hY⟩ : ∃ Y, zJ x = Y := ⟨_, rfl⟩
      rw [hY] at q2 g2
      cbv
      refine y8 (fun _ => 8) (.refl _) rfl okA q1 ⟨⟨rfl, rfl⟩, trivial⟩ rfl rfl rfl rfl rfl rfl rfl rfl ?_
      cbv
      refine y8 (fun _ => 8) (.refl _) rfl okA q2 ⟨⟨rfl, rfl⟩, trivial⟩ rfl rfl rfl rfl rfl rfl rfl rfl ?_
      cbv
      refine zB8 rY rfl rfl rfl (by simp [zA]) rfl ⟨by simp [zQ, yW]⟩ (z7 (by simp [zQ] <;> omega) (by simp [zQ, zA]; (try dsimp only [zG] at *); omega)) rfl ?_
      cbv
      refine ⟨zD om om, (j, a3, p ++ [⟨((1 + v : Nat) : Int), (i : Int), Y⟩]), ⟨ha3, g2, ⟨fun d hd => by
        rcases List.mem_append.1 hd with hd | hd
        · exact g3.d d hd
        · obtain rfl := List.mem_singleton.1 hd
          exact .inr ⟨by show ((1 + v : Nat) : Int) = 3 ∨ ((1 + v : Nat) : Int) = 4; omega, by show (0 : Int) ≤ (i : Int); omega, by show (i : Int) < n; omega, x, hf, hY.symm⟩⟩, by show (p ++ [_]).length + j ≤ 3; simp; omega⟩, (by show j < j + 1; omega), .le okZ ?_ rfl⟩
      cbv
      refine ⟨okA, okA, ⟨lR, lR, lR, lR, lR, lR, lR, lR, lR, lR, z0 rfl (by simp [zQ, zA]), lR, trivial⟩, zF ?_, trivial⟩
      rw [← j7]
      rfl
    cbv
    refine zH (fun e2 => ?_) (fun e2 => ?_)
    · have h34 : 1 + v = 3 ∨ 1 + v = 4 := by (try dsimp only [zG] at *); omega
      rw [if_pos h34] at g2
      have q1 := cN n a1 (by omega) (by omega) ha1
      have ha2 := hNl a1 ha1
      have hi := hNn n a1 (by omega)
      generalize fdN raw n a1 = i at *
      generalize na raw a1 = a2 at *
      have q2 := cQ a2 ha2
      have ha3 := hQl a2 ha2
      have hf := hQf a2
      generalize fdQ raw a2 = X at *
      obtain ⟨x, a3⟩ := X
      dsimp only at q2 ha3 hf g2
      obtain ⟨Y, hY⟩ : ∃ Y, zJ x = Y := ⟨_, rfl⟩
      rw [hY] at q2 g2
      cbv
      refine y8 (fun _ => 8) (.refl _) rfl okA q1 ⟨⟨rfl, rfl⟩, trivial⟩ rfl rfl rfl rfl rfl rfl rfl rfl ?_
      cbv
      refine y8 (fun _ => 8) (.refl _) rfl okA q2 ⟨⟨rfl, rfl⟩, trivial⟩ rfl rfl rfl rfl rfl rfl rfl rfl ?_
      cbv
      refine zB8 rY rfl rfl rfl (by simp [zA]) rfl ⟨by simp [zQ, yW]⟩ (z7 (by simp [zQ] <;> omega) (by simp [zQ, zA]; (try dsimp only [zG] at *); omega)) rfl ?_
      cbv
      refine ⟨zD om om, (j, a3, p ++ [⟨((1 + v : Nat) : Int), (i : Int), Y⟩]), ⟨ha3, g2, ⟨fun d hd => by
        rcases List.mem_append.1 hd with hd | hd
        · exact g3.d d hd
        · obtain rfl := List.mem_singleton.1 hd
          exact .inr ⟨by show ((1 + v : Nat) : Int) = 3 ∨ ((1 + v : Nat) : Int) = 4; omega, by show (0 : Int) ≤ (i : Int); omega, by show (i : Int) < n; omega, x, hf, hY.symm⟩⟩, by show (p ++ [_]).length + j ≤ 3; simp; omega⟩, (by show j < j + 1; omega), .le okZ ?_ rfl⟩
      cbv
      refine ⟨okA, okA, ⟨lR, lR, lR, lR, lR, lR, lR, lR, lR, lR, z0 rfl (by simp [zQ, zA]), lR, trivial⟩, zF ?_, trivial⟩
      rw [← j7]
      rfl
    have h34 : ¬ (1 + v = 3 ∨ 1 + v = 4) := by (try dsimp only [zG] at *); omega
    rw [if_neg h34] at g2
    cbv
    refine zH (fun e3 => ?_) (fun e3 => ?_)
    · have hm : m = 0 := by simp only [zA] at e3; (try dsimp only [zG] at *); omega
      rw [if_pos hm] at g2
      cbv
      exact ⟨zD om om, (j, a1, p), ⟨ha1, g2, g3, by show p.length + j ≤ 3; omega⟩, (by show j < j + 1; omega), wkZ⟩
    have hm : m ≠ 0 := by simp only [zA] at e3; (try dsimp only [zG] at *); omega
    rw [if_neg hm] at g2
    have q1 := cN m a1 (by omega) (by omega) ha1
    have ha2 := hNl a1 ha1
    have hi := hNn m a1 (by omega)
    generalize fdN raw m a1 = i at *
    generalize na raw a1 = a2 at *
    have d1 := cD p 1 (i : Int) g3 (by omega)
    have d2 := cD p 2 (i : Int) g3 (by omega)
    generalize hx1 : (⟨⟨⟨(n : Int), gus, gos⟩, ⟨lo, hi', rows⟩, ⟨ts, c⟩⟩, p, []⟩ : Scp).dcd 1 (i : Int) = x1 at *
    generalize hx2 : (⟨⟨⟨(n : Int), gus, gos⟩, ⟨lo, hi', rows⟩, ⟨ts, c⟩⟩, p, []⟩ : Scp).dcd 2 (i : Int) = x2 at *
    clear hx1 hx2
    cbv
    refine y8 (fun _ => 8) (.refl _) rfl (by exact ⟨lR, zC (by simp [zA, hq2]), trivial⟩) q1 ⟨⟨rfl, rfl⟩, trivial⟩ rfl rfl rfl rfl rfl rfl rfl rfl ?_
    cbv
    have hsl : ∀ q : List Dec, ((enc dc q).drop 0).take q.length = enc dc q := fun q => by rw [List.drop_zero, List.take_of_length_le (by simp [zA])]
    refine uT (.lend 68 54 rfl rfl ?_) rfl ?_ d1 rfl ?_
    · cbv
      repeat' first | exact trivial | exact zX (by simp [zA]) | apply And.intro
    · cbv
      exact ⟨⟨lR, lR, lR, lR, lR, lR, lR, lR, lR, lR, zP (hsl p), xC rfl, trivial⟩, lR, lR, trivial⟩
    cbv
    refine z4 (fun e4 => ?_) (fun e4 => ?_)
    · rw [if_pos (.inl e4)] at g2
      cbv
      exact ⟨zD om om, (j, a2, p), ⟨ha2, g2, g3, by show p.length + j ≤ 3; omega⟩, (by show j < j + 1; omega), wkZ⟩
    cbv
    refine uT (.lend 68 59 rfl rfl ?_) rfl ?_ d2 rfl ?_
    · cbv
      repeat' first | exact trivial | exact zX (by simp [zA]) | apply And.intro
    · cbv
      exact ⟨⟨lR, lR, lR, lR, lR, lR, lR, lR, lR, lR, zP (hsl p), xC rfl, trivial⟩, lR, lR, trivial⟩
    cbv
    refine zS (fun e5 => ?_) (fun e5 => ?_)
    · rw [if_pos (.inr e5)] at g2
      cbv
      exact ⟨zD om om, (j, a2, p), ⟨ha2, g2, g3, by show p.length + j ≤ 3; omega⟩, (by show j < j + 1; omega), wkZ⟩
    rw [if_neg (by rw [e4, e5]; simp)] at g2
    cbv
    refine zB8 rY rfl rfl rfl (by simp [zA]) rfl ⟨by simp [zQ, yW]⟩ (z7 (by simp [zQ] <;> omega) (by simp [zQ, zA]; (try dsimp only [zG] at *); omega)) rfl ?_
    cbv
    refine ⟨zD om om, (j, a2, p ++ [⟨((1 + v : Nat) : Int), (i : Int), R0⟩]), ⟨ha2, g2, ⟨fun d hd => by
      rcases List.mem_append.1 hd with hd | hd
      · exact g3.d d hd
      · obtain rfl := List.mem_singleton.1 hd
        exact .inl ⟨by show ((1 + v : Nat) : Int) = 1 ∨ ((1 + v : Nat) : Int) = 2; (try dsimp only [zG] at *); omega, by show (0 : Int) ≤ (i : Int); omega, by show (i : Int) < m; omega, rfl⟩⟩, by show (p ++ [_]).length + j ≤ 3; simp; omega⟩, (by show j < j + 1; omega), .le okZ ?_ rfl⟩
    cbv
    refine ⟨okA, okA, ⟨lR, lR, lR, lR, lR, lR, lR, lR, lR, lR, z0 rfl (by simp [zQ, zA]), lR, trivial⟩, zF ?_, trivial⟩
    rw [← j7]
    rfl
  · have hk : k = 0 := om
    subst hk
    rw [zII] at g2
    subst g2
    cbv
    refine rP ⟨[(2, .ptr 2 0)], [(2, .box [.int .i64 (fun _ => (n : Int)), alv gus, alv gos, rlv lo, rlv hi', alv rows, tsv ts, .bool (fun _ => c.neg), nat c.num, nat c.den, dlv P, .nil])]⟩ (.trans (.le (ps' := ⟨[(2, .ptr 2 0)], [(2, .box [.int .i64 (fun _ => (n : Int)), alv gus, alv gos, rlv lo, rlv hi', alv rows, tsv ts, .bool (fun _ => c.neg), nat c.num, nat c.den, .osl 68 5 (fun _ => 0) (fun _ => P.length), .nil]), (68, .log 5 (fun _ => enc dc P))]⟩) okZ ?_ rfl) (.trans (.frz 68 rfl rfl (by cbv; repeat' first | exact trivial | exact zX (by simp [zA]) | apply And.intro) (by cbv; repeat' first | exact trivial | exact zX (by simp [zA]) | apply And.intro)) (.le okZ ?_ rfl))) rfl ?_
    · cbv
      exact ⟨okA, zF rfl, trivial⟩
    · cbv
      exact ⟨⟨lR, lR, lR, lR, lR, lR, lR, lR, lR, lR, zP (by rw [List.drop_zero, List.take_of_length_le (by simp [zA])]), lR, trivial⟩, trivial⟩
    · cbv
      exact okA
theorem aC (v:Int):Cn (F.var v).ts:=Cn.nil.cons (by simp) (by show (1:Rat)≠0;decide)
theorem iK {f g:F}(hf:Cn f.ts)(hg:Cn g.ts):Cn (f.sub g).ts:=hf.mrg hg
theorem cL {f:F}{q:Rat}(hf:Cn f.ts):Cn (f.scale q).ts:=Cn.nil.mrg hf
theorem zQI (s:Scp)(r:Row)(hs:s.sz (2^20))(hc:s.q.can)(hn1:1≤s.q.g.n)(hn2:s.q.g.n≤256)(hul:s.q.g.us.length≤1024)(hpl:∀ a,a∈s.q.g.us→a.ts.length≤2000) :
  zE 136 [sv s,rwv r] (.tup [fv ((s.fUn r).getD F.zero),.bool (fun _=>(s.fUn r).isSome)]):=by
 refine sF Tryz.f136 ?_
 have hno:¬ (0≤r.i∧r.i<s.q.g.us.length)→s.fUn r=none:=fun h=>if_neg h
 have hyes:∀ p,0≤r.i→r.i<s.q.g.us.length→s.q.g.us[r.i.toNat]?=some p→s.fUn r=unF s r p.f (F.var (s.q.g.n+r.i)) (s.lem r.lo r.i false) (s.lem r.hi r.i true):=fun p h1 h2 h3=>by
  unfold Scp.fUn
  rw[if_pos ⟨h1,h2⟩,h3]
 obtain⟨o,ho⟩:∃ o,o=s.fUn r:=⟨_,rfl⟩
 rw[←ho] at hno hyes ⊢
 obtain⟨W,hW⟩:∃ W,W=fA (o.getD F.zero):=⟨_,rfl⟩
 obtain⟨b,hb⟩:∃ b,b=o.isSome:=⟨_,rfl⟩
 rw[show fv (o.getD F.zero)=av W by rw[hW],←hb]
 have fin2:∀ f,o=some f→W=fA f∧b=true:=fun f h=>by rw[h] at hW hb;exact⟨hW,hb⟩
 have fin1:o=none→W=⟨[],R0⟩∧b=false:=fun h=>by
  rw[h] at hW hb
  exact⟨hW.trans uF,hb⟩
 clear hW hb ho
 obtain⟨wt,w1,w2,w3⟩:=W
 have fin3:o=none→wt=[]∧w1=false∧w2=[]∧w3=[]∧b=false:=fun h=>by
  obtain⟨h1,h2⟩:=fin1 h
  simp only[A.mk.injEq,R.mk.injEq] at h1
  exact⟨h1.1,h1.2.1,h1.2.2.1,h1.2.2.2,h2⟩
 clear fin1
 by_cases hin:0≤r.i∧r.i<s.q.g.us.length
 rotate_left
 ·have hnn:=hno hin
  have hin':r.i<0∨(0≤r.i∧(s.q.g.us.length:Int)≤r.i):=by omega
  obtain⟨⟨⟨gn,us,os⟩,⟨lo,hi,rows⟩,⟨ts,c1,c2,c3⟩⟩,path,lems⟩:=s
  obtain⟨k,i,rlo,rhi⟩:=r
  simp only at hin'
  clear hno hyes fin2 hin
  obtain⟨g0,g1,g2,g3,g4⟩:=fin3 hnn
  subst g0 g1 g2 g3 g4
  cbv
  refine zR (fun e1=>?_) (fun e1=>?_)
  ·cbv
   (refine rC ?_;cbv)
   exact okA
  ·cbv
   refine xI (by dsimp only at e1 ⊢;rw[zA];(try dsimp only [zG] at *);omega) ?_
   cbv
   (refine rC ?_;cbv)
   exact okA
 obtain⟨hi0,hi1⟩:=hin
 obtain⟨p,hp⟩:∃ p,s.q.g.us[r.i.toNat]?=some p:=yA (by omega)
 have ho:=hyes p hi0 hi1 hp
 clear hno hyes
 have hpm:=List.mem_of_getElem? hp
 have hps:=hs.q.g.us.sz p hpm
 obtain⟨hpA,hpc⟩:=hc.us p hpm
 have fP:p.f.fl (2^20) 2000:=hps.fl (by decide) (hpl p hpm)
 have cv:=r5 (s.q.g.n+r.i)
 have cl:=zGU s r.lo r.i false (hs.lems.mono (by decide))
 have cu:=zGU s r.hi r.i true (hs.lems.mono (by decide))
 have fl:=m6 hs.lems (by decide) r.lo r.i false
 have fu:=m6 hs.lems (by decide) r.hi r.i true
 have cd1:=bK s 1 r.i (hs.path.mono (by decide))
 have cd2:=bK s 2 r.i (hs.path.mono (by decide))
 unfold unF onB rH at ho
 generalize s.lem r.lo r.i false=l at *
 generalize s.lem r.hi r.i true=u at *
 generalize s.dcd 1 r.i=dv1 at *
 generalize s.dcd 2 r.i=dv2 at *
 have fV:=w7 (s.q.g.n+r.i)
 have cV:=aC (s.q.g.n+r.i)
 have co:=s32 (-1) (by decide) (by decide)
 have csl:=s35 (zJ (l.getD 0)) (by have:=(z8 fl).n;omega)
 have csu:=s35 (zJ (u.getD 0)) (by have:=(z8 fu).n;omega)
 rw[z9] at csl csu
 have d6:=nM cV hpc fV fP (by decide) (by decide) (by decide) (by decide)
 have d8:=nM hpc cV fP fV (by decide) (by decide) (by decide) (by decide)
 have d9:=gP (q:=((-1:Int):Rat)) fP (xM) (by decide) (by decide) (m:=1) (by decide)
 have d10:=gP (q:=((-1:Int):Rat)) fV (xM) (by decide) (by decide) (m:=1) (by decide)
 have nL:=r6 (zJ (l.getD 0))
 have nU:=r6 (zJ (u.getD 0))
 have d11:=nM hpc (Cn.nil:Cn (F.num (l.getD 0)).ts) fP (wH fl) (by decide) (by decide) (by decide) (by decide)
 have d12:=nM (Cn.nil:Cn (F.num (u.getD 0)).ts) hpc (wH fu) fP (by decide) (by decide) (by decide) (by decide)
 have d13a:=gP ((fP.sub (wH fl))) fu (by decide) (by decide) (by decide)
 have d13d:=s93 (zJ (u.getD 0)) (zJ (l.getD 0)) ((z8 fu).mono (by decide)) ((z8 fl).mono (by decide))
 rw[z9,z9] at d13d
 have d13b:=gP fV (j6 fu fl) (by decide) (by decide) (by decide)
 have d13:=nM (cL (iK hpc (Cn.nil:Cn (F.num (l.getD 0)).ts))) (cL (q:=u.getD 0 - l.getD 0) cV) ((fP.sub (wH fl)).scale fu) (fV.scale (j6 fu fl)) (by decide) (by decide) (by decide) (by decide)
 rw[show (((-1:Int):Rat))=(-1:Rat) by rfl] at d9 d10 co
 have e7:p.f.add F.zero=p.f:=add_zero hpc
 rw[e7] at ho
 have cv':fv (F.var (s.q.g.n+r.i))=av (fA (F.var (s.q.g.n+r.i))):=rfl
 generalize F.var (s.q.g.n+r.i)=v at *
 rw[cv'] at cv
 clear cv'
 generalize l.isSome=low at *
 generalize u.isSome=top at *
 generalize l.getD 0=lq at *
 generalize u.getD 0=uq at *
 obtain⟨V1,hV1⟩:∃ X,fA v=X:=⟨_,rfl⟩
 obtain⟨L,hL⟩:∃ X,zJ lq=X:=⟨_,rfl⟩
 obtain⟨U,hU⟩:∃ X,zJ uq=X:=⟨_,rfl⟩
 obtain⟨M1,hM1⟩:∃ X,zJ (-1:Rat)=X:=⟨_,rfl⟩
 obtain⟨X6,hX6⟩:∃ X,fA (v.sub p.f)=X:=⟨_,rfl⟩
 obtain⟨X8,hX8⟩:∃ X,fA (p.f.sub v)=X:=⟨_,rfl⟩
 obtain⟨X9,hX9⟩:∃ X,fA (p.f.scale (-1))=X:=⟨_,rfl⟩
 obtain⟨X10,hX10⟩:∃ X,fA (v.scale (-1))=X:=⟨_,rfl⟩
 obtain⟨X11,hX11⟩:∃ X,fA (p.f.sub (F.num lq))=X:=⟨_,rfl⟩
 obtain⟨X12,hX12⟩:∃ X,fA ((F.num uq).sub p.f)=X:=⟨_,rfl⟩
 obtain⟨Xa,hXa⟩:∃ X,fA ((p.f.sub (F.num lq)).scale uq)=X:=⟨_,rfl⟩
 obtain⟨Xb,hXb⟩:∃ X,fA (v.scale (uq - lq))=X:=⟨_,rfl⟩
 obtain⟨X13,hX13⟩:∃ X,fA (((p.f.sub (F.num lq)).scale uq).sub (v.scale (uq - lq)))=X:=⟨_,rfl⟩
 obtain⟨Dq,hDq⟩:∃ X,zJ (uq - lq)=X:=⟨_,rfl⟩
 have d6':zE 124 [av V1,av p] (av X6):=by subst hV1 hL hU hM1 hX6 hX8 hX9 hX10 hX11 hX12 hXa hXb hX13 hDq;dsimp only [fv] at d6;rw[hpA] at d6;exact d6
 have d8':zE 124 [av p,av V1] (av X8):=by subst hV1 hL hU hM1 hX6 hX8 hX9 hX10 hX11 hX12 hXa hXb hX13 hDq;dsimp only [fv] at d8;rw[hpA] at d8;exact d8
 have d9':zE 59 [av p,rv M1] (av X9):=by subst hV1 hL hU hM1 hX6 hX8 hX9 hX10 hX11 hX12 hXa hXb hX13 hDq;dsimp only [fv] at d9;rw[hpA] at d9;exact d9
 have d10':zE 59 [av V1,rv M1] (av X10):=by subst hV1 hL hU hM1 hX6 hX8 hX9 hX10 hX11 hX12 hXa hXb hX13 hDq;exact d10
 have d11':zE 124 [av p,av ⟨[],L⟩] (av X11):=by subst hV1 hL hU hM1 hX6 hX8 hX9 hX10 hX11 hX12 hXa hXb hX13 hDq;dsimp only [fv] at d11;rw[hpA] at d11;exact d11
 have d12':zE 124 [av ⟨[],U⟩,av p] (av X12):=by subst hV1 hL hU hM1 hX6 hX8 hX9 hX10 hX11 hX12 hXa hXb hX13 hDq;dsimp only [fv] at d12;rw[hpA] at d12;exact d12
 have d13a':zE 59 [av X11,rv U] (av Xa):=by subst hV1 hL hU hM1 hX6 hX8 hX9 hX10 hX11 hX12 hXa hXb hX13 hDq;exact d13a
 have d13d':zE 87 [rv U,rv L] (rv Dq):=by subst hV1 hL hU hM1 hX6 hX8 hX9 hX10 hX11 hX12 hXa hXb hX13 hDq;exact d13d
 have d13b':zE 59 [av V1,rv Dq] (av Xb):=by subst hV1 hL hU hM1 hX6 hX8 hX9 hX10 hX11 hX12 hXa hXb hX13 hDq;exact d13b
 have d13':zE 124 [av Xa,av Xb] (av X13):=by subst hV1 hL hU hM1 hX6 hX8 hX9 hX10 hX11 hX12 hXa hXb hX13 hDq;exact d13
 rw[hV1] at cv
 rw[hL] at cl csl nL
 rw[hU] at cu csu nU
 rw[hM1] at co
 clear d6 d8 d9 d10 d11 d12 d13a d13d d13b d13 hs hc hpl fP fV fl fu hps
 obtain⟨⟨⟨gn,us,os⟩,⟨lo,hi,rows⟩,⟨ts,c1,c2,c3⟩⟩,path,lems⟩:=s
 obtain⟨k,i,rlo,rhi⟩:=r
 simp only at hn1 hn2 hul hi0 hi1 hp ho
 obtain⟨ip,hip⟩:∃ j:Nat,i=(j:Int):=⟨i.toNat,by omega⟩
 subst hip
 rw[Int.toNat_natCast] at hp
 generalize yB lq=sl at *
 generalize yB uq=su at *
 cbv
 refine zW (by dsimp only;omega) ?_
 cbv
 refine z3 (by dsimp only;rw[zA];omega) ?_
 cbv
 refine vQ 15 [(14,7)] (by cbv) (by cbv) (by cbv) ?_
 cbv
 refine⟨zD om om,?_⟩
 cbv
 refine dA cv ?_
 cbv
 refine wL hp jA dE ?_
 cbv
 refine cA cl ?_
 cbv
 refine cA cu ?_
 cbv
 refine cA co ?_
 cbv
 obtain⟨on,hon⟩:∃ on:Bool,(decide (rhi=0) && ((decide (rlo=0) && dv1) || (low && decide (0≤sl))))=on:=⟨_,rfl⟩
 obtain⟨off,hoff⟩:∃ off:Bool,(decide (rlo=0) && ((decide (rhi=0) && dv2) || (top && decide (su≤0))))=off:=⟨_,rfl⟩
 refine zDO (σ:=Unit) (fun _=>⟨[(2,.ptr 2 0),(3,.ptr 3 0),(4,.ptr 4 0),(7,.ptr 7 0),(8,.ptr 8 0),(9,.ptr 9 0),(10,.bool (fun _=>low)),(11,.ptr 11 0),(12,.bool (fun _=>top)),(13,.ptr 13 0),(14,.bool (fun _=>on))],[(2,.box [.int .i64 (fun _=>gn),alv us,alv os,rlv lo,rlv hi,alv rows,tsv ts,.bool (fun _=>c1),nat c2,nat c3,dlv path,llv lems]),(3,.box [.int .i64 (fun _=>k),.int .i64 (fun _=>(ip:Int)),.int .i64 (fun _=>rlo),.int .i64 (fun _=>rhi)]),(4,.box [.nil,.ff,.nil,.nil]),(7,.box [tsv V1.ts,.bool (fun _=>V1.c.neg),nat V1.c.num,nat V1.c.den]),(8,.box [tsv p.ts,.bool (fun _=>p.c.neg),nat p.c.num,nat p.c.den]),(9,.box [.bool (fun _=>L.neg),nat L.num,nat L.den]),(11,.box [.bool (fun _=>U.neg),nat U.num,nat U.den]),(13,.box [.bool (fun _=>M1.neg),nat M1.num,nat M1.den])]⟩) (fun _=>True) ?_ (fun _ _=>?_)
 ·skip
  cbv
  refine zR (fun e1=>?_) (fun e1=>?_)
  ·(try dsimp only at e1)
   cbv
   refine zR (fun e2=>?_) (fun e2=>?_)
   ·(try dsimp only at e2)
    cbv
    refine cA cd1 ?_
    cbv
    refine z4 (fun e3=>?_) (fun e3=>?_)
    ·cbv
     exact⟨(),trivial,.le (by cbv;repeat' first | exact trivial | exact lR | exact zV (by rw[←hon];simp [e1,e2,e3]) | exact zN (by rw[←hon];simp [e1,e2,e3]) | exact yL (by rw[←hon];simp [e1,e2,e3]) | apply And.intro) okZ rfl⟩
    ·cbv
     refine z4 (fun e4=>?_) (fun e4=>?_)
     ·cbv
      refine cA csl ?_
      cbv
      exact⟨(),trivial,.le (by cbv;repeat' first | exact trivial | exact lR | exact zV (by rw[←hon];simp [e1,e2,e3,e4]) | exact zN (by rw[←hon];simp [e1,e2,e3,e4]) | exact yL (by rw[←hon];simp [e1,e2,e3,e4]) | apply And.intro) okZ rfl⟩
     ·cbv
      exact⟨(),trivial,.le (by cbv;repeat' first | exact trivial | exact lR | exact zV (by rw[←hon];simp [e1,e2,e3,e4]) | exact zN (by rw[←hon];simp [e1,e2,e3,e4]) | exact yL (by rw[←hon];simp [e1,e2,e3,e4]) | apply And.intro) okZ rfl⟩
   ·(try dsimp only at e2)
    cbv
    refine z4 (fun e4=>?_) (fun e4=>?_)
    ·cbv
     refine cA csl ?_
     cbv
     exact⟨(),trivial,.le (by cbv;repeat' first | exact trivial | exact lR | exact zV (by rw[←hon];simp [e1,e2,e4]) | exact zN (by rw[←hon];simp [e1,e2,e4]) | exact yL (by rw[←hon];simp [e1,e2,e4]) | apply And.intro) okZ rfl⟩
    ·cbv
     exact⟨(),trivial,.le (by cbv;repeat' first | exact trivial | exact lR | exact zV (by rw[←hon];simp [e1,e2,e4]) | exact zN (by rw[←hon];simp [e1,e2,e4]) | exact yL (by rw[←hon];simp [e1,e2,e4]) | apply And.intro) okZ rfl⟩
  ·cbv
   exact⟨(),trivial,.le (by cbv;repeat' first | exact trivial | exact lR | exact zV (by rw[←hon];simp [e1]) | exact zN (by rw[←hon];simp [e1]) | exact yL (by rw[←hon];simp [e1]) | apply And.intro) okZ rfl⟩
 cbv
 refine zDO (σ:=Unit) (fun _=>⟨[(2,.ptr 2 0),(3,.ptr 3 0),(4,.ptr 4 0),(7,.ptr 7 0),(8,.ptr 8 0),(9,.ptr 9 0),(10,.bool (fun _=>low)),(11,.ptr 11 0),(12,.bool (fun _=>top)),(13,.ptr 13 0),(14,.bool (fun _=>on)),(15,.bool (fun _=>off))],[(2,.box [.int .i64 (fun _=>gn),alv us,alv os,rlv lo,rlv hi,alv rows,tsv ts,.bool (fun _=>c1),nat c2,nat c3,dlv path,llv lems]),(3,.box [.int .i64 (fun _=>k),.int .i64 (fun _=>(ip:Int)),.int .i64 (fun _=>rlo),.int .i64 (fun _=>rhi)]),(4,.box [.nil,.ff,.nil,.nil]),(7,.box [tsv V1.ts,.bool (fun _=>V1.c.neg),nat V1.c.num,nat V1.c.den]),(8,.box [tsv p.ts,.bool (fun _=>p.c.neg),nat p.c.num,nat p.c.den]),(9,.box [.bool (fun _=>L.neg),nat L.num,nat L.den]),(11,.box [.bool (fun _=>U.neg),nat U.num,nat U.den]),(13,.box [.bool (fun _=>M1.neg),nat M1.num,nat M1.den])]⟩) (fun _=>True) ?_ (fun _ _=>?_)
 ·skip
  cbv
  refine zR (fun e1=>?_) (fun e1=>?_)
  ·(try dsimp only at e1)
   cbv
   refine zR (fun e2=>?_) (fun e2=>?_)
   ·(try dsimp only at e2)
    cbv
    refine cA cd2 ?_
    cbv
    refine z4 (fun e3=>?_) (fun e3=>?_)
    ·cbv
     exact⟨(),trivial,.le (by cbv;repeat' first | exact trivial | exact lR | exact zV (by rw[←hoff];simp [e1,e2,e3]) | exact zN (by rw[←hoff];simp [e1,e2,e3]) | exact yL (by rw[←hoff];simp [e1,e2,e3]) | apply And.intro) okZ rfl⟩
    ·cbv
     refine z4 (fun e4=>?_) (fun e4=>?_)
     ·cbv
      refine cA csu ?_
      cbv
      exact⟨(),trivial,.le (by cbv;repeat' first | exact trivial | exact lR | exact zV (by rw[←hoff];simp [e1,e2,e3,e4]) | exact zN (by rw[←hoff];simp [e1,e2,e3,e4]) | exact yL (by rw[←hoff];simp [e1,e2,e3,e4]) | apply And.intro) okZ rfl⟩
     ·cbv
      exact⟨(),trivial,.le (by cbv;repeat' first | exact trivial | exact lR | exact zV (by rw[←hoff];simp [e1,e2,e3,e4]) | exact zN (by rw[←hoff];simp [e1,e2,e3,e4]) | exact yL (by rw[←hoff];simp [e1,e2,e3,e4]) | apply And.intro) okZ rfl⟩
   ·(try dsimp only at e2)
    cbv
    refine z4 (fun e4=>?_) (fun e4=>?_)
    ·cbv
     refine cA csu ?_
     cbv
     exact⟨(),trivial,.le (by cbv;repeat' first | exact trivial | exact lR | exact zV (by rw[←hoff];simp [e1,e2,e4]) | exact zN (by rw[←hoff];simp [e1,e2,e4]) | exact yL (by rw[←hoff];simp [e1,e2,e4]) | apply And.intro) okZ rfl⟩
    ·cbv
     exact⟨(),trivial,.le (by cbv;repeat' first | exact trivial | exact lR | exact zV (by rw[←hoff];simp [e1,e2,e4]) | exact zN (by rw[←hoff];simp [e1,e2,e4]) | exact yL (by rw[←hoff];simp [e1,e2,e4]) | apply And.intro) okZ rfl⟩
  ·cbv
   exact⟨(),trivial,.le (by cbv;repeat' first | exact trivial | exact lR | exact zV (by rw[←hoff];simp [e1]) | exact zN (by rw[←hoff];simp [e1]) | exact yL (by rw[←hoff];simp [e1]) | apply And.intro) okZ rfl⟩
 cbv
 have hk:k=5∨k=6∨k=7∨k=8∨k=9∨k=10∨k=11∨k=12∨k=13∨(k≤4∨14≤k):=by omega
 simp only[hon,hoff,Row.plain] at ho
 clear cd1 cd2 cl cu co cv hon hoff
 rcases hk with rfl | rfl | rfl | rfl | rfl | rfl | rfl | rfl | rfl | hk
 ·as_aux_lemma =>
   rw[if_pos rfl] at ho
   have T:=fun (h:(decide (rlo=0) && decide (rhi=0))=true)=>fin2 (v) (by rw[ho];exact if_pos h)
   have N:=fun (h:¬ ((decide (rlo=0) && decide (rhi=0))=true))=>fin3 (by rw[ho];exact if_neg h)
   rw[hV1] at T
   clear ho fin2 fin3
   refine xI (by simp) ?_
   cbv
   refine vQ 10 [(9,16)] (by cbv) (by cbv) (by cbv) ?_
   cbv
   refine zR (fun e1=>?_) (fun e1=>?_)
   ·cbv
    refine zS (fun e9=>?_) (fun e9=>?_)
    ·cbv
     obtain⟨g1,g2⟩:=T (by simp_all)
     cases g1
     subst g2
     (refine rC ?_;cbv)
     exact okA
    ·cbv
     obtain⟨g0,g1,g2,g3,g4⟩:=N (by simp_all)
     subst g0 g1 g2 g3 g4
     (refine rC ?_;cbv)
     exact okA
   ·cbv
    obtain⟨g0,g1,g2,g3,g4⟩:=N (by simp_all)
    subst g0 g1 g2 g3 g4
    (refine rC ?_;cbv)
    exact okA
 ·as_aux_lemma =>
   rw[if_neg (by decide),if_pos rfl] at ho
   have T:=fun (h:(decide (rlo=0) && decide (rhi=0))=true)=>fin2 (v.sub p.f) (by rw[ho];exact if_pos h)
   have N:=fun (h:¬ ((decide (rlo=0) && decide (rhi=0))=true))=>fin3 (by rw[ho];exact if_neg h)
   rw[hX6] at T
   clear ho fin2 fin3
   refine z3 (by simp) ?_
   cbv
   refine xI (by simp) ?_
   cbv
   refine vQ 12 [(11,16)] (by cbv) (by cbv) (by cbv) ?_
   cbv
   refine dA d6' ?_
   cbv
   refine zR (fun e1=>?_) (fun e1=>?_)
   ·cbv
    refine zS (fun e9=>?_) (fun e9=>?_)
    ·cbv
     obtain⟨g1,g2⟩:=T (by simp_all)
     cases g1
     subst g2
     (refine rC ?_;cbv)
     exact okA
    ·cbv
     obtain⟨g0,g1,g2,g3,g4⟩:=N (by simp_all)
     subst g0 g1 g2 g3 g4
     (refine rC ?_;cbv)
     exact okA
   ·cbv
    obtain⟨g0,g1,g2,g3,g4⟩:=N (by simp_all)
    subst g0 g1 g2 g3 g4
    (refine rC ?_;cbv)
    exact okA
 ·as_aux_lemma =>
   rw[if_neg (by decide),if_neg (by decide),if_pos rfl] at ho
   have T:=fun (h:on=true)=>fin2 (p.f) (by rw[ho];exact if_pos h)
   have N:=fun (h:¬ (on=true))=>fin3 (by rw[ho];exact if_neg h)
   rw[hpA] at T
   clear ho fin2 fin3
   refine z3 (by simp) ?_
   cbv
   refine z3 (by simp) ?_
   cbv
   refine xI (by simp) ?_
   cbv
   refine zS (fun e9=>?_) (fun e9=>?_)
   ·cbv
    obtain⟨g1,g2⟩:=T (by simp_all)
    cases g1
    subst g2
    (refine rC ?_;cbv)
    exact okA
   ·cbv
    obtain⟨g0,g1,g2,g3,g4⟩:=N (by simp_all)
    subst g0 g1 g2 g3 g4
    (refine rC ?_;cbv)
    exact okA
 ·as_aux_lemma =>
   rw[if_neg (by decide),if_neg (by decide),if_neg (by decide),if_pos rfl] at ho
   have T:=fun (h:on=true)=>fin2 (p.f.sub v) (by rw[ho];exact if_pos h)
   have N:=fun (h:¬ (on=true))=>fin3 (by rw[ho];exact if_neg h)
   rw[hX8] at T
   clear ho fin2 fin3
   refine z3 (by simp) ?_
   cbv
   refine z3 (by simp) ?_
   cbv
   refine z3 (by simp) ?_
   cbv
   refine xI (by simp) ?_
   cbv
   refine cA d8' ?_
   cbv
   refine zS (fun e9=>?_) (fun e9=>?_)
   ·cbv
    obtain⟨g1,g2⟩:=T (by simp_all)
    cases g1
    subst g2
    (refine rC ?_;cbv)
    exact okA
   ·cbv
    obtain⟨g0,g1,g2,g3,g4⟩:=N (by simp_all)
    subst g0 g1 g2 g3 g4
    (refine rC ?_;cbv)
    exact okA
 ·as_aux_lemma =>
   rw[if_neg (by decide),if_neg (by decide),if_neg (by decide),if_neg (by decide),if_pos rfl] at ho
   have T:=fun (h:off=true)=>fin2 (p.f.scale (-1)) (by rw[ho];exact if_pos h)
   have N:=fun (h:¬ (off=true))=>fin3 (by rw[ho];exact if_neg h)
   rw[hX9] at T
   clear ho fin2 fin3
   refine z3 (by simp) ?_
   cbv
   refine z3 (by simp) ?_
   cbv
   refine z3 (by simp) ?_
   cbv
   refine z3 (by simp) ?_
   cbv
   refine xI (by simp) ?_
   cbv
   refine cA d9' ?_
   cbv
   refine zS (fun e9=>?_) (fun e9=>?_)
   ·cbv
    obtain⟨g1,g2⟩:=T (by simp_all)
    cases g1
    subst g2
    (refine rC ?_;cbv)
    exact okA
   ·cbv
    obtain⟨g0,g1,g2,g3,g4⟩:=N (by simp_all)
    subst g0 g1 g2 g3 g4
    (refine rC ?_;cbv)
    exact okA
 ·as_aux_lemma =>
   rw[if_neg (by decide),if_neg (by decide),if_neg (by decide),if_neg (by decide),if_neg (by decide),if_pos rfl] at ho
   have T:=fun (h:off=true)=>fin2 (v.scale (-1)) (by rw[ho];exact if_pos h)
   have N:=fun (h:¬ (off=true))=>fin3 (by rw[ho];exact if_neg h)
   rw[hX10] at T
   clear ho fin2 fin3
   refine z3 (by simp) ?_
   cbv
   refine z3 (by simp) ?_
   cbv
   refine z3 (by simp) ?_
   cbv
   refine z3 (by simp) ?_
   cbv
   refine z3 (by simp) ?_
   cbv
   refine xI (by simp) ?_
   cbv
   refine cA d10' ?_
   cbv
   refine zS (fun e9=>?_) (fun e9=>?_)
   ·cbv
    obtain⟨g1,g2⟩:=T (by simp_all)
    cases g1
    subst g2
    (refine rC ?_;cbv)
    exact okA
   ·cbv
    obtain⟨g0,g1,g2,g3,g4⟩:=N (by simp_all)
    subst g0 g1 g2 g3 g4
    (refine rC ?_;cbv)
    exact okA
 ·as_aux_lemma =>
   rw[if_neg (by decide),if_neg (by decide),if_neg (by decide),if_neg (by decide),if_neg (by decide),if_neg (by decide),if_pos rfl] at ho
   have T:=fun (h:low=true∧rhi=0)=>fin2 (p.f.sub (F.num lq)) (by rw[ho];exact if_pos h)
   have N:=fun (h:¬ (low=true∧rhi=0))=>fin3 (by rw[ho];exact if_neg h)
   rw[hX11] at T
   clear ho fin2 fin3
   refine z3 (by simp) ?_
   cbv
   refine z3 (by simp) ?_
   cbv
   refine z3 (by simp) ?_
   cbv
   refine z3 (by simp) ?_
   cbv
   refine z3 (by simp) ?_
   cbv
   refine z3 (by simp) ?_
   cbv
   refine xI (by simp) ?_
   cbv
   refine vQ 11 [(10,16)] (by cbv) (by cbv) (by cbv) ?_
   cbv
   refine dA nL ?_
   cbv
   refine dA d11' ?_
   cbv
   refine z4 (fun e1=>?_) (fun e1=>?_)
   ·cbv
    refine zS (fun e9=>?_) (fun e9=>?_)
    ·cbv
     obtain⟨g1,g2⟩:=T (by simp_all)
     cases g1
     subst g2
     (refine rC ?_;cbv)
     exact okA
    ·cbv
     obtain⟨g0,g1,g2,g3,g4⟩:=N (by simp_all)
     subst g0 g1 g2 g3 g4
     (refine rC ?_;cbv)
     exact okA
   ·cbv
    obtain⟨g0,g1,g2,g3,g4⟩:=N (by simp_all)
    subst g0 g1 g2 g3 g4
    (refine rC ?_;cbv)
    exact okA
 ·as_aux_lemma =>
   rw[if_neg (by decide),if_neg (by decide),if_neg (by decide),if_neg (by decide),if_neg (by decide),if_neg (by decide),if_neg (by decide),if_pos rfl] at ho
   have T:=fun (h:top=true∧rlo=0)=>fin2 ((F.num uq).sub p.f) (by rw[ho];exact if_pos h)
   have N:=fun (h:¬ (top=true∧rlo=0))=>fin3 (by rw[ho];exact if_neg h)
   rw[hX12] at T
   clear ho fin2 fin3
   refine z3 (by simp) ?_
   cbv
   refine z3 (by simp) ?_
   cbv
   refine z3 (by simp) ?_
   cbv
   refine z3 (by simp) ?_
   cbv
   refine z3 (by simp) ?_
   cbv
   refine z3 (by simp) ?_
   cbv
   refine z3 (by simp) ?_
   cbv
   refine xI (by simp) ?_
   cbv
   refine vQ 11 [(10,16)] (by cbv) (by cbv) (by cbv) ?_
   cbv
   refine dA nU ?_
   cbv
   refine dA d12' ?_
   cbv
   refine z4 (fun e1=>?_) (fun e1=>?_)
   ·cbv
    refine zS (fun e9=>?_) (fun e9=>?_)
    ·cbv
     obtain⟨g1,g2⟩:=T (by simp_all)
     cases g1
     subst g2
     (refine rC ?_;cbv)
     exact okA
    ·cbv
     obtain⟨g0,g1,g2,g3,g4⟩:=N (by simp_all)
     subst g0 g1 g2 g3 g4
     (refine rC ?_;cbv)
     exact okA
   ·cbv
    obtain⟨g0,g1,g2,g3,g4⟩:=N (by simp_all)
    subst g0 g1 g2 g3 g4
    (refine rC ?_;cbv)
    exact okA
 ·as_aux_lemma =>
   rw[if_neg (by decide),if_neg (by decide),if_neg (by decide),if_neg (by decide),if_neg (by decide),if_neg (by decide),if_neg (by decide),if_neg (by decide),if_pos rfl] at ho
   have T:=fun (h:low=true∧top=true∧sl<0∧0<su)=>fin2 (((p.f.sub (F.num lq)).scale uq).sub (v.scale (uq - lq))) (by rw[ho];exact if_pos h)
   have N:=fun (h:¬ (low=true∧top=true∧sl<0∧0<su))=>fin3 (by rw[ho];exact if_neg h)
   rw[hX13] at T
   clear ho fin2 fin3
   refine z3 (by simp) ?_
   cbv
   refine z3 (by simp) ?_
   cbv
   refine z3 (by simp) ?_
   cbv
   refine z3 (by simp) ?_
   cbv
   refine z3 (by simp) ?_
   cbv
   refine z3 (by simp) ?_
   cbv
   refine z3 (by simp) ?_
   cbv
   refine z3 (by simp) ?_
   cbv
   refine xI (by simp) ?_
   cbv
   refine u7 7 (by cbv) (by cbv) ?_
   cbv
   refine dA nL ?_
   cbv
   refine dA d11' ?_
   cbv
   refine dA d13a' ?_
   cbv
   refine vQ 22 [(21,16)] (by cbv) (by cbv) (by cbv) ?_
   cbv
   refine dA d13d' ?_
   cbv
   refine dA d13b' ?_
   cbv
   refine dA d13' ?_
   cbv
   refine z4 (fun e1=>?_) (fun e1=>?_)
   ·cbv
    refine z4 (fun e2=>?_) (fun e2=>?_)
    ·cbv
     refine dA csl ?_
     cbv
     refine zR (fun e3=>?_) (fun e3=>?_)
     ·cbv
      refine dA csu ?_
      cbv
      refine zS (fun e9=>?_) (fun e9=>?_)
      ·cbv
       obtain⟨g1,g2⟩:=T (by simp_all)
       cases g1
       subst g2
       (refine rC ?_;cbv)
       exact okA
      ·cbv
       obtain⟨g0,g1,g2,g3,g4⟩:=N (by simp_all)
       subst g0 g1 g2 g3 g4
       (refine rC ?_;cbv)
       exact okA
     ·cbv
      obtain⟨g0,g1,g2,g3,g4⟩:=N (fun h=>e3 h.2.2.1)
      subst g0 g1 g2 g3 g4
      (refine rC ?_;cbv)
      exact okA
    ·cbv
     obtain⟨g0,g1,g2,g3,g4⟩:=N (by simp_all)
     subst g0 g1 g2 g3 g4
     (refine rC ?_;cbv)
     exact okA
   ·cbv
    obtain⟨g0,g1,g2,g3,g4⟩:=N (by simp_all)
    subst g0 g1 g2 g3 g4
    (refine rC ?_;cbv)
    exact okA
 ·as_aux_lemma =>
   have N:=fun (_:True)=>fin3 (by rw[ho,if_neg (by omega),if_neg (by omega),if_neg (by omega),if_neg (by omega),if_neg (by omega),if_neg (by omega),if_neg (by omega),if_neg (by omega),if_neg (by omega)])
   refine z3 (by omega) ?_
   cbv
   refine z3 (by omega) ?_
   cbv
   refine z3 (by omega) ?_
   cbv
   refine z3 (by omega) ?_
   cbv
   refine z3 (by omega) ?_
   cbv
   refine z3 (by omega) ?_
   cbv
   refine z3 (by omega) ?_
   cbv
   refine z3 (by omega) ?_
   cbv
   refine z3 (by omega) ?_
   cbv
   obtain⟨g0,g1,g2,g3,g4⟩:=N (trivial)
   subst g0 g1 g2 g3 g4
   (refine rC ?_;cbv)
   exact okA
end Go.Proofs.YtgcpehdkdnkgeaaGreat
