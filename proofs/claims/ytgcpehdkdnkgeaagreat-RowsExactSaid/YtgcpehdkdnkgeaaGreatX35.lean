/- A part of the proof: RuJ, SpW, RuK, AlA. -/
import Derived.Test.YtgcpehdkdnkgeaaGreatX34
import Derived.Test.YtgcpehdkdnkgeaaGreatX32
import Derived.Test.YtgcpehdkdnkgeaaGreatX30
import Derived.Test.YtgcpehdkdnkgeaaGreatX28
import Derived.Test.YtgcpehdkdnkgeaaGreatX23
import Derived.Test.YtgcpehdkdnkgeaaGreatX25
import Derived.Test.YtgcpehdkdnkgeaaGreatX31
set_option linter.all false
namespace Go.Proofs.YtgcpehdkdnkgeaaGreat
open Go
set_option maxRecDepth 100000
set_option maxHeartbeats 4000000
theorem zGE:ty 42=.sli 6 96 [.int .i64 (fun _=>0),.ff,.ff,.nil,.nil,.nil]:=by cbv
def uN (b:Bool) (j:Int) (up:Bool) (v:R) (l:List Mult):List Lem:=if b=true then [⟨j,up,v,l⟩] else []
theorem zIB (j:Int)(x y:Option (Rat × List (Row × Rat))):bndL j x y=uN x.isSome j false (zC ((x.map Prod.fst).getD 0)) (mR ((x.map Prod.snd).getD []))++uN y.isSome j true (zC (-(zC ((y.map Prod.fst).getD 0)).q)) (mR ((y.map Prod.snd).getD [])):=by
 unfold bndL uN
 cases x <;> cases y <;> simp [zY]
theorem zBG (L:List Lem)(m:Lem):enc lc (L++[m])=enc lc L++zL [lc m]:=by simp [enc,zL]
theorem zRM {q:Qry}{P:List Dec}(h:(⟨q,P,[]⟩:Scp).sz (2^20)){L:List Lem}{j:Nat}(hj:j≤4)(hL:Lok L j):(⟨q,P,L⟩:Scp).sz (2^20):=by
 refine⟨h.q,h.path,⟨by have:=hL.len;show L.length<2^38;omega,fun m hm=>?_,fun m hm=>(hL.pf m hm).1.mono (by decide)⟩⟩
 obtain⟨q,hq⟩:=hL.v m hm
 obtain⟨i,_,hf⟩:=hL.lb m hm
 rw[hq,zY] at hf
 rw[hq]
 exact zU (hf.mono (Nat.le_trans (zGA i) (by decide)))
structure BndF (q:Qry) (P:List Dec) (j:Nat) (L:List Lem) (p p2:A) (xv yv zv:R) (xl yl:List Mult) (xb yb:Bool):Prop where
 c1:zB 129 [sv ⟨q,P,L⟩,av p] (.tup [rv xv,mlv xl,.bool (fun _=>xb)])
 c2:zB 59 [av p,rv (zC ((-1:Int):Rat))] (av p2)
 c3:zB 129 [sv ⟨q,P,L⟩,av p2] (.tup [rv yv,mlv yl,.bool (fun _=>yb)])
 c4:yb=true→zB 130 [rv yv] (rv zv)
 lok:Lok (L++(uN xb j false xv xl++uN yb j true zv yl)) (j+1)
 g:∀ r,bndG q P (p::r) j L=bndG q P r (j+1) (L++(uN xb j false xv xl++uN yb j true zv yl))
theorem zJC {x:FQry}(hx:x.small)(hwf:∀ (i:Nat) (f:F),x.g.us[i]?=some f→f.wf ((x.g.n+i:Nat):Int)){P:List Dec}(hP:(⟨x.q,P,[]⟩:Scp).sz (2^20)){j:Nat}{p:A}(hp:x.q.g.us[j]?=some p){L:List Lem}(hL:Lok L j) :
  ∃ p2 xv yv zv xl yl xb yb,BndF x.q P j L p p2 xv yv zv xl yl xb yb:=by
 have hp':(x.g.us.map fA)[j]?=some p:=hp
 rw[List.getElem?_map] at hp'
 cases hb:x.g.us[j]? with
 | none=>rw[hb] at hp';cases hp'
 | some b =>
  rw[hb] at hp'
  have hpb:p=fA b:=by cases hp';rfl
  have hlt:=(List.getElem?_eq_some_iff.1 hb).1
  have hj:j≤3:=by have:=hx.g.us;omega
  have hf:=hx.g.uf b (List.mem_of_getElem? hb)
  have hw:=hwf j b hb
  have hs:=zRM hP (by omega:j≤4) hL
  have n0:0≤x.q.g.n:=by show (0:Int)≤(x.g.n:Int);omega
  have n1:x.q.g.n≤256:=by have:=hx.g.n2;show (x.g.n:Int)≤256;omega
  have a1:=zHH ⟨x.q,P,L⟩ b hs n0 n1 (zFA rfl hx hL.lb hj (hf.mono (by decide) (by decide)) hw)
  have a3:=zHH ⟨x.q,P,L⟩ (b.scale (-1)) hs n0 n1 (zFA rfl hx hL.lb hj ((hf.scale wC).mono (by decide) (by decide)) hw.scale)
  have a2:=b5 (q:=-1) hf wC (by decide) (by decide) (by decide)
  obtain⟨l1,l2⟩:=zE6 hx hwf (path:=P) hb hL
  rw[zIB] at l1
  refine⟨fA (b.scale (-1)),_,_,_,_,_,_,_,⟨by rw[hpb];exact a1,by rw[hpb];exact a2,a3,fun h=>?_,l1,fun r=>?_⟩⟩
  ·refine s143 _ ?_
   cases hy:(⟨x.q,P,L⟩:Scp).above (b.scale (-1)) with
   | none=>rw[hy] at h;cases h
   | some v=>exact (zU (l2 v hy)).mono (by decide)
  ·rw[hpb]
   show bndG x.q P r (j+1) (L++bndL j ((⟨x.q,P,L⟩:Scp).above (fA b).f) ((⟨x.q,P,L⟩:Scp).above ((fA b).f.scale (-1))))=_
   rw[vE,zIB]
theorem zN3 (raw : List UInt8) : zB 63 [svN (fdS raw)] (sv (fdS raw).bounded) := by
  refine sF Tryz.f63 ?_
  have sm := xA raw 0
  have hwf := zG0 raw 0
  have hz : (fdS raw).sz (2^20) := by
    have g := nR raw
    exact ⟨g.q.mono (by decide), ⟨g.path.len, fun d hd => (g.path.sz d hd).mono (by decide)⟩, ⟨by show 0 < 2^38; decide, fun m hm => absurd hm (by simp [fdS]), fun m hm => absurd hm (by simp [fdS])⟩⟩
  have hbg : (fdS raw).bounded = ⟨(fdY raw 0).1.q, (fdS raw).path, bndG (fdY raw 0).1.q (fdS raw).path (fdY raw 0).1.q.g.us 0 []⟩ := rfl
  have hsd : fdS raw = ⟨(fdY raw 0).1.q, (fdS raw).path, []⟩ := rfl
  rw [hbg]
  generalize (fdS raw).path = path at *
  rw [hsd] at hz ⊢
  have hF := fun j p L hp hL => zJC (j := j) (p := p) (L := L) sm hwf hz hp hL
  clear hbg hsd hwf hz
  have hul : (fdY raw 0).1.q.g.us.length ≤ 4 := by show (List.map fA _).length ≤ 4; rw [List.length_map]; exact sm.g.us
  clear sm
  generalize (fdY raw 0).1.q = Q at *
  have cof := s32 (-1) (by decide) (by decide)
  obtain ⟨M1, hM1⟩ : ∃ X, zC ((-1 : Int) : Rat) = X := ⟨_, rfl⟩
  have hF' : ∀ (j : Nat) (p : A) (L : List Lem), Q.g.us[j]? = some p → Lok L j → ∃ p2 xv yv zv xl yl xb yb, BndF Q path j L p p2 xv yv zv xl yl xb yb := hF
  clear hF
  obtain ⟨⟨n, us, os⟩, ⟨lo, hi', rows⟩, ⟨ts, c⟩⟩ := Q
  dsimp only at hF' hul
  rw [hM1] at cof
  obtain ⟨G, hG⟩ : ∃ G, bndG ⟨⟨n, us, os⟩, ⟨lo, hi', rows⟩, ⟨ts, c⟩⟩ path = G := ⟨_, rfl⟩
  rw [hG]
  have hGn : ∀ j L, G [] j L = L := fun j L => by rw [← hG]; rfl
  obtain ⟨L9, hL9⟩ : ∃ X, G us 0 [] = X := ⟨_, rfl⟩
  rw [hL9]
  cbv
  refine qO 10 (by cbv) (by cbv) ?_
  cbv
  refine z4 (σ := Nat × List Lem) (fun s => ⟨[(1, .ptr 1 0), (2, .ptr 2 0), (3, .ptr 3 0), (4, .int .i64 (fun _ => (s.1 : Int)))],
      [(1, .box [.int .i64 (fun _ => n), alv us, alv os, rlv lo, rlv hi', alv rows, tsv ts, .bool (fun _ => c.neg), nat c.num, nat c.den, dlv path, .nil]), (2, .box [.int .i64 (fun _ => 0), .nil, .nil, .nil, .nil, .nil, .nil, .ff, .nil, .nil, .nil, .nil]), (3, .box [.int .i64 (fun _ => n), alv us, alv os, rlv lo, rlv hi', alv rows, tsv ts, .bool (fun _ => c.neg), nat c.num, nat c.den, dlv path, .osl 61 6 (fun _ => 0) (fun _ => s.2.length)]), (61, .lent 6 (fun _ => enc lc s.2))]⟩)
    (fun s => s.1 ≤ us.length ∧ G (us.drop s.1) s.1 s.2 = L9 ∧ Lok s.2 s.1) (fun s => us.length - s.1)
    (0, []) ⟨Nat.zero_le _, hL9, ⟨fun m hm => absurd hm (by simp), by simp, fun m hm => absurd hm (by simp), fun m hm => absurd hm (by simp)⟩⟩
    (.trans (wkZ (ps' := ⟨[(1, .ptr 1 0), (2, .ptr 2 0), (3, .ptr 3 0), (4, .int .i64 (fun _ => ((0 : Nat) : Int)))], [(1, .box [.int .i64 (fun _ => n), alv us, alv os, rlv lo, rlv hi', alv rows, tsv ts, .bool (fun _ => c.neg), nat c.num, nat c.den, dlv path, .nil]), (2, .box [.int .i64 (fun _ => 0), .nil, .nil, .nil, .nil, .nil, .nil, .ff, .nil, .nil, .nil, .nil]), (3, .box [.int .i64 (fun _ => n), alv us, alv os, rlv lo, rlv hi', alv rows, tsv ts, .bool (fun _ => c.neg), nat c.num, nat c.den, dlv path, .nil])]⟩))
    (.trans (.adoptB (ps := ⟨[(1, .ptr 1 0), (2, .ptr 2 0), (3, .ptr 3 0), (4, .int .i64 (fun _ => ((0 : Nat) : Int)))], [(1, .box [.int .i64 (fun _ => n), alv us, alv os, rlv lo, rlv hi', alv rows, tsv ts, .bool (fun _ => c.neg), nat c.num, nat c.den, dlv path, .nil]), (2, .box [.int .i64 (fun _ => 0), .nil, .nil, .nil, .nil, .nil, .nil, .ff, .nil, .nil, .nil, .nil]), (3, .box [.int .i64 (fun _ => n), alv us, alv os, rlv lo, rlv hi', alv rows, tsv ts, .bool (fun _ => c.neg), nat c.num, nat c.den, dlv path, .nil])]⟩) (cs := [.int .i64 (fun _ => n), alv us, alv os, rlv lo, rlv hi', alv rows, tsv ts, .bool (fun _ => c.neg), nat c.num, nat c.den, dlv path, .nil]) 61 6 3 11 rfl rfl rfl)
    (.trans (.pub 61 rfl rfl) (.le okZ ?_ rfl)))) ?_
  · cbv
    exact ⟨okA, okA, okA, zI rfl, trivial⟩
  intro s hs
  obtain ⟨j, L⟩ := s
  obtain ⟨h1, h2, h3⟩ := hs
  dsimp only at h1 h2 h3
  clear hL9
  cbv
  refine zF (fun h => ?_) (fun h => ?_)
  · rw [zA] at h
    have hlt : j < us.length := by (try dsimp only [zG] at *); omega
    obtain ⟨p, hp⟩ := zS hlt
    obtain ⟨p2, xv, yv, zv, xl, yl, xb, yb, F⟩ := hF' j p L hp h3
    have g2 := F.g (us.drop (j + 1))
    rw [hG, ← yE hp, h2] at g2
    have c1 := F.c1
    have c2 := F.c2
    have c3 := F.c3
    have c4 := F.c4
    have lk := F.lok
    have lkL : L.length ≤ 8 := by have := h3.len; omega
    clear F hF' hG h2 h3 hGn
    rw [hM1] at c2
    have hT : ((enc lc L).drop 0).take L.length = enc lc L := by rw [List.drop_zero, ← zA lc L, List.take_length]
    have hfr : 0 + L.length ≤ (enc lc L).length := by rw [zA]; omega
    have hLn := lkL
    cbv
    refine yF hp vR uR ?_
    cbv
    refine zGU 61 rfl (by cbv; repeat' first | exact trivial | exact ⟨hfr⟩ | apply And.intro) ?_
    cbv
    refine yQ rfl (by exact ⟨⟨lR, lR, lR, lR, lR, lR, lR, lR, lR, lR, lR, zQ hT, trivial⟩, okA, trivial⟩) c1 rfl ?_
    cbv
    refine w5 12 [(10, 9)] (by cbv) (by cbv) (by cbv) ?_
    cbv
    refine zGU 61 rfl (by cbv; repeat' first | exact trivial | exact ⟨hfr⟩ | apply And.intro) ?_
    cbv
    refine dA cof ?_
    cbv
    refine dA c2 ?_
    cbv
    refine xG (by exact ⟨⟨lR, lR, lR, lR, lR, lR, lR, lR, lR, lR, lR, zQ hT, trivial⟩, okA, trivial⟩) c3 rfl ?_
    cbv
    refine j5 (σ := List Lem) (fun Lx => ⟨[(1, .ptr 1 0), (2, .ptr 2 0), (3, .ptr 3 0), (4, .int .i64 (fun _ => (j : Int))), (9, .ptr 9 0), (10, mlv yl), (11, .bool (fun _ => yb))],
        [(1, .box [.int .i64 (fun _ => n), alv us, alv os, rlv lo, rlv hi', alv rows, tsv ts, .bool (fun _ => c.neg), nat c.num, nat c.den, dlv path, .nil]), (2, .box [.int .i64 (fun _ => 0), .nil, .nil, .nil, .nil, .nil, .nil, .ff, .nil, .nil, .nil, .nil]), (3, .box [.int .i64 (fun _ => n), alv us, alv os, rlv lo, rlv hi', alv rows, tsv ts, .bool (fun _ => c.neg), nat c.num, nat c.den, dlv path, .osl 61 6 (fun _ => 0) (fun _ => Lx.length)]), (61, .log 6 (fun _ => enc lc Lx)), (9, .box [.bool (fun _ => yv.neg), nat yv.num, nat yv.den])]⟩)
      (fun Lx => Lx = L ++ uN xb j false xv xl) (fun e => ?_) (fun e => ?_) (fun Lx hLx => ?_)
    · cbv
      refine zS5 ?_
      cbv
      refine zMN (.lend 61 4 rfl rfl trivial) ?_
      cbv
      refine zAE zGE rfl rfl rfl (by simp [zA]) rfl ⟨by simp [zL, y8]⟩ (yA (by simp [zL] <;> omega) (by simp [zL, zA]; (try dsimp only [zG] at *); omega)) rfl ?_
      cbv
      refine ⟨L ++ [⟨j, false, xv, xl⟩], by unfold uN; rw [if_pos e], .le okZ ?_ rfl⟩
      cbv
      refine ⟨okA, okA, ⟨lR, lR, lR, lR, lR, lR, lR, lR, lR, lR, lR, zW rfl (by simp [zL, zA]), trivial⟩, zI ?_, okA, trivial⟩
      rw [zBG]
      rfl
    · cbv
      refine ⟨L, by unfold uN; rw [if_neg (by rw [e]; decide), List.append_nil], .le okZ ?_ rfl⟩
      cbv
      exact ⟨okA, okA, okA, zI rfl, okA, trivial⟩
    · have hxl : Lx.length ≤ 9 := by rw [hLx, List.length_append]; have : (uN xb j false xv xl).length ≤ 1 := by unfold uN; split <;> simp
                                     omega
      have g3 : L ++ (uN xb j false xv xl ++ uN yb j true zv yl) = Lx ++ uN yb j true zv yl := by rw [← List.append_assoc, ← hLx]
      rw [g3] at g2 lk
      clear g3 hLx c1 c2 c3 cof hT hfr
      cbv
      refine zV (fun e => ?_) (fun e => ?_)
      · have g3 : uN yb j true zv yl = [⟨j, true, zv, yl⟩] := by unfold uN; rw [if_pos e]
        rw [g3] at g2 lk
        have c4' := c4 e
        clear c4 g3
        cbv
        refine zO 8 (by cbv) ?_
        cbv
        refine dA c4' ?_
        cbv
        refine zAE zGE rfl rfl rfl (by simp [zA]) rfl ⟨by simp [zL, y8]⟩ (yA (by simp [zL] <;> omega) (by simp [zL, zA]; (try dsimp only [zG] at *); omega)) rfl ?_
        cbv
        refine ⟨zH om om, (j + 1, Lx ++ [⟨j, true, zv, yl⟩]), ⟨om, g2.symm, lk⟩, om, .trans (.pub 61 rfl rfl) (.le okZ ?_ rfl)⟩
        cbv
        refine ⟨okA, okA, ⟨lR, lR, lR, lR, lR, lR, lR, lR, lR, lR, lR, zW rfl (by simp [zL, zA]), trivial⟩, zI ?_, trivial⟩
        rw [zBG]
        rfl
      · have g3 : uN yb j true zv yl = [] := by unfold uN; rw [if_neg (by rw [e]; decide)]
        rw [g3, List.append_nil] at g2 lk
        clear c4 g3
        cbv
        refine ⟨zH om om, (j + 1, Lx), ⟨om, g2.symm, lk⟩, om, .trans (.pub 61 rfl rfl) (.le okZ ?_ rfl)⟩
        cbv
        exact ⟨okA, okA, okA, zI rfl, trivial⟩
  · have hj : j = us.length := by rw [zA] at h; (try dsimp only [zG] at *); omega
    rw [hj, List.drop_length, hGn] at h2
    subst h2
    have hT : ((enc lc L).drop 0).take L.length = enc lc L := by rw [List.drop_zero, ← zA lc L, List.take_length]
    have hfr : 0 + L.length ≤ (enc lc L).length := by rw [zA]; omega
    clear hF' hG hGn h3
    cbv
    refine zGU 61 rfl (by cbv; repeat' first | exact trivial | exact ⟨hfr⟩ | apply And.intro) ?_
    cbv
    (refine rC ?_; cbv)
    exact ⟨lR, lR, lR, lR, lR, lR, lR, lR, lR, lR, lR, zQ hT, trivial⟩
theorem zON {s:Scp}{x:FQry}(hq:s.q=x.q)(hx:x.small)(hp:Dsz 43 s.path){r:Row}{f:F}(h:s.fIn r=some f):f.fl 200 3000:=by
 unfold Scp.fIn at h
 split at h
 ·split at h
  ·cases hy:s.q.r.lo[r.i.toNat]? with
   | none=>rw[hy] at h;cases h
   | some y =>
    rw[hy] at h
    cases h
    have hm:=List.mem_of_getElem? hy
    rw[hq] at hm
    obtain⟨b,hb,rfl⟩:=List.mem_map.1 hm
    dsimp only
    rw[zY]
    exact ((wO r.i).sub (wY (hx.r.bf b hb).1)).mono (by omega) (by omega)
  ·split at h
   ·cases hy:s.q.r.hi[r.i.toNat]? with
    | none=>rw[hy] at h;cases h
    | some y =>
     rw[hy] at h
     cases h
     have hm:=List.mem_of_getElem? hy
     rw[hq] at hm
     obtain⟨b,hb,rfl⟩:=List.mem_map.1 hm
     dsimp only
     rw[zY]
     exact ((wY (hx.r.bf b hb).2).sub (wO r.i)).mono (by omega) (by omega)
   ·split at h
    ·cases hy:s.q.r.rows[r.i.toNat]? with
     | none=>rw[hy] at h;cases h
     | some y =>
      rw[hy] at h
      cases h
      have hm:=List.mem_of_getElem? hy
      rw[hq] at hm
      obtain⟨b,hb,rfl⟩:=List.mem_map.1 hm
      dsimp only
      rw[vE]
      have:=hx.g.n2
      exact ((hx.r.rf b hb).add zero_fl).mono (by omega) (by omega)
    ·split at h
     ·split at h
      ·rename_i d hd
       have hz:=(hp.sz d (List.mem_of_getElem? hd)).fits (by decide)
       split at h
       ·split at h
        ·cases h
         exact ((wO d.i).sub (wY hz)).mono (by omega) (by omega)
        ·split at h
         ·cases h
          exact (((wO d.i).sub (wY hz)).scale wC).mono (by omega) (by omega)
         ·cases h
       ·cases h
      ·cases h
     ·cases h
 ·cases h
theorem zRP {s:Scp}{x:FQry}(hq:s.q=x.q)(hx:x.small)(hp:Dsz 43 s.path)(hL:LB KK s.lems){r:Row}{f:F}(h:s.fm r=some f):f.fl 2718660 3000:=by
 by_cases h5:5≤r.k
 ·have h':=h
  unfold Scp.fm at h'
  split at h'
  ·cases h'
  rw[if_neg (by omega)] at h'
  unfold Scp.fUn at h'
  split at h'
  ·rename_i hi
   have hi':r.i=((r.i.toNat:Nat):Int):=by omega
   exact (zM6 hq hx zDU hL h5 hi' h).mono (by have:=zGA r.i.toNat;omega) (Nat.le_refl _)
  ·cases h'
 ·unfold Scp.fm at h
  split at h
  ·cases h
  rw[if_pos (by omega)] at h
  exact (zON hq hx hp h).mono (by omega) (Nat.le_refl _)
theorem zTI (raw:List UInt8):(fdS raw).bounded.q=(fdY raw 0).1.q:=rfl
theorem zSD (raw:List UInt8):Dsz 43 (fdS raw).bounded.path:=(nR raw).path
instance:DecidableEq A:=fun a b=>if h:a.ts=b.ts∧a.c=b.c then isTrue (by obtain⟨x,y⟩:=a;obtain⟨x',y'⟩:=b;simp only at h;rw[h.1,h.2]) else isFalse (fun e=>h (by rw[e];exact⟨rfl,rfl⟩))
theorem zPI (a b:A)(ha:a.sz (2^32))(hb:b.sz (2^32)):zB 34 [av a,av b] (.bool (fun _=>decide (a=b))):=by
 refine sF Tryz.f34 ?_
 have cc:=s69 a.c b.c ha.c hb.c
 have ct:∀ x y:Int × R,x∈a.ts→y∈b.ts→zB 50 [rv x.2,rv y.2] (.bool (fun _=>decide (x.2=y.2))):=fun x y hx hy=>s69 x.2 y.2 (ha.t.sz x hx) (hb.t.sz y hy)
 have hla:=ha.t.len
 have hlb:=hb.t.len
 obtain⟨res,hres⟩:∃ r,decide (a=b)=r:=⟨_,rfl⟩
 rw[hres]
 have n1:¬ a.ts.length=b.ts.length→res=false:=fun h=>by rw[←hres];exact decide_eq_false (fun e=>h (by rw[e]))
 have n2:¬ a.c=b.c→res=false:=fun h=>by rw[←hres];exact decide_eq_false (fun e=>h (by rw[e]))
 have n3:∀ (i:Nat) x y,a.ts[i]?=some x→b.ts[i]?=some y→¬ x=y→res=false:=fun i x y h1 h2 h=>by
  rw[←hres]
  exact decide_eq_false (fun e=>h (by rw[e,h2] at h1;exact (Option.some.inj h1).symm))
 have y1:a.c=b.c→a.ts=b.ts→res=true:=fun h1 h2=>by
  rw[←hres]
  obtain⟨at',ac'⟩:=a
  obtain⟨bt',bc'⟩:=b
  simp only at h1 h2
  rw[h1,h2]
  exact decide_eq_true rfl
 clear hres ha hb
 cbv
 refine zR (fun e1=>?_) (fun e1=>?_)
 rotate_left
 ·cbv
  (refine rC ?_;cbv)
  exact zM (n1 (fun h=>e1 (by rw[zA,zA,h])))
 have e1':a.ts.length=b.ts.length:=by rw[zA,zA] at e1;(try dsimp only [zG] at *);omega
 cbv
 refine cA cc ?_
 cbv
 refine zF (fun e2=>?_) (fun e2=>?_)
 rotate_left
 ·cbv
  (refine rC ?_;cbv)
  exact zM (n2 e2)
 clear cc n1 n2
 cbv
 refine z4 (σ:=Nat) (fun i=>⟨[(2,.ptr 2 0),(3,.ptr 3 0),(5,.int .i64 (fun _=>(i:Int)))],[(2,.box [tsv a.ts,.bool (fun _=>a.c.neg),nat a.c.num,nat a.c.den]),(3,.box [tsv b.ts,.bool (fun _=>b.c.neg),nat b.c.num,nat b.c.den])]⟩)
  (fun i=>i≤a.ts.length∧a.ts.take i=b.ts.take i) (fun i=>a.ts.length - i) 0 ⟨Nat.zero_le _,rfl⟩ (wkZ) ?_
 intro i hi
 obtain⟨h1,h2⟩:=hi
 cbv
 refine zF (fun h5=>?_) (fun h5=>?_)
 ·have hlt:=jR h5
  obtain⟨x,hx⟩:=zS hlt
  obtain⟨y,hy⟩:=zS (l:=b.ts) (i:=i) (by omega)
  have cs:=ct x y (List.mem_of_getElem? hx) (List.mem_of_getElem? hy)
  have n:=n3 i x y hx hy
  have hs1:a.ts.take (i+1)=a.ts.take i++[x]:=by rw[List.take_add_one,hx];rfl
  have hs2:b.ts.take (i+1)=b.ts.take i++[y]:=by rw[List.take_add_one,hy];rfl
  clear ct n3
  obtain⟨x1,x2⟩:=x
  obtain⟨y1',y2⟩:=y
  dsimp only at cs n
  cbv
  refine zO 29 (by cbv) ?_
  cbv
  refine yF hx y4 y6 ?_
  cbv
  refine yF hy y4 y6 ?_
  cbv
  refine zR (fun e3=>?_) (fun e3=>?_)
  rotate_left
  ·cbv
   (refine rC ?_;cbv)
   exact zM (n (fun h=>e3 (by cases h;rfl)))
  cbv
  refine yF hx y4 y6 ?_
  cbv
  refine yF hy y4 y6 ?_
  cbv
  refine dA cs ?_
  cbv
  refine zF (fun e4=>?_) (fun e4=>?_)
  rotate_left
  ·cbv
   (refine rC ?_;cbv)
   exact zM (n (fun h=>e4 (by cases h;rfl)))
  cbv
  exact⟨zH om om,i+1,⟨om,by rw[hs1,hs2,h2];dsimp only at e3 e4;rw[e3,e4]⟩,om,wkZ⟩
 ·have hi':=aG h5 h1
  cbv
  (refine rC ?_;cbv)
  refine z7 (y1 e2 ?_)
  rw[hi',List.take_length] at h2
  rw[h2,e1',List.take_length]
theorem zQ6 (s:Scp)(j:Int)(hs:s.sz (2^20)):zB 84 [sv s,.int .i64 (fun _=>j)] (.tup [.bool (fun _=>s.onU j),.bool (fun _=>s.offU j)]):=by
 refine sF Tryz.f84 ?_
 have cb:=eI s j hs.lems
 have cd1:=bZ s 1 j (hs.path.mono (by decide))
 have cd2:=bZ s 2 j (hs.path.mono (by decide))
 have csg:∀ m,m∈s.lems→zB 33 [rv m.v] (.int .i64 (fun _=>yB m.v.q)):=fun m hm=>s35 m.v (by have:=(hs.lems.sz m hm).n;omega)
 have hlen:=hs.lems.len
 have hbb:∀ k:Nat,(k=(s.best j).1∨k=(s.best j).2)→k≠0→∃ m,s.lems[k - 1]?=some m∧k - 1<s.lems.length:=fun k hk h0=>by
  obtain⟨m,hm,_⟩:=fS hk h0
  exact⟨m,hm,(List.getElem?_eq_some_iff.1 hm).1⟩
 have hb1:=hbb _ (.inl rfl)
 have hb2:=hbb _ (.inr rfl)
 clear hbb
 have hv:∀ (k:Nat) m,s.lems[k - 1]?=some m→xV s.lems k=m.v.q:=fun k m h=>by unfold xV;rw[h];rfl
 have hon:s.onU j=(s.dcd 1 j || (decide (0<(s.best j).1) && decide (0≤yB (xV s.lems (s.best j).1)))):=rfl
 have hoff:s.offU j=(s.dcd 2 j || (decide (0<(s.best j).2) && decide (yB (xV s.lems (s.best j).2)≤0))):=rfl
 generalize s.onU j=on at *
 generalize s.offU j=off at *
 generalize s.dcd 1 j=d1 at *
 generalize s.dcd 2 j=d2 at *
 generalize (s.best j).1=b1 at *
 generalize (s.best j).2=b2 at *
 have o11:d1=true→on=true:=fun h=>by rw[hon,h];rfl
 have o12:d1=false→b1=0→on=false:=fun h g=>by rw[hon,h,g];rfl
 have o13:d1=false→∀ m,s.lems[b1 - 1]?=some m→0<b1→on=decide (0≤yB m.v.q):=fun h m hm g=>by rw[hon,h,hv b1 m hm,decide_eq_true g];rfl
 have o21:d2=true→off=true:=fun h=>by rw[hoff,h];rfl
 have o22:d2=false→b2=0→off=false:=fun h g=>by rw[hoff,h,g];rfl
 have o23:d2=false→∀ m,s.lems[b2 - 1]?=some m→0<b2→off=decide (yB m.v.q≤0):=fun h m hm g=>by rw[hoff,h,hv b2 m hm,decide_eq_true g];rfl
 clear hon hoff hv hs
 obtain⟨⟨⟨gn,us,os⟩,⟨lo,hi,rows⟩,⟨ts,c1,c2,c3⟩⟩,path,L⟩:=s
 dsimp only at csg hlen hb1 hb2 o13 o23
 cbv
 refine cA cb ?_
 cbv
 refine cA cd1 ?_
 cbv
 refine z5 (fun eA=>?_) (fun eA=>?_)
 ·have qA:=o11 eA
  cbv
  refine cA cd2 ?_
  cbv
  refine z5 (fun eB=>?_) (fun eB=>?_)
  ·have qB:=o21 eB
   cbv
   (refine rC ?_;cbv)
   exact⟨z7 qA,z7 qB,trivial⟩
  ·cbv
   refine zR (fun fB=>?_) (fun fB=>?_)
   ·have gB:b2≠0:=by (try dsimp only [zG] at *);omega
    obtain⟨mB,hmB,hlB⟩:=hb2 gB
    have qB:=o23 eB mB hmB (by omega)
    have csB:=csg mB (List.mem_of_getElem? hmB)
    have ixB:∀ {K:List PV→Prop},K (lc mB)→IdxOk 6 (fun _=>enc lc L) (fun _=>(b2:Int) - 1) K:=fun hK=>xC hmB (by omega) vD uO hK
    generalize yB mB.v.q=sgB at *
    cbv
    refine⟨zH om om,ixB ?_⟩
    cbv
    refine cA csB ?_
    cbv
    (refine rC ?_;cbv)
    exact⟨z7 qA,zX qB.symm,trivial⟩
   ·have qB:=o22 eB om
    cbv
    (refine rC ?_;cbv)
    exact⟨z7 qA,zM qB,trivial⟩
 ·cbv
  refine zR (fun fA=>?_) (fun fA=>?_)
  ·have gA:b1≠0:=by (try dsimp only [zG] at *);omega
   obtain⟨mA,hmA,hlA⟩:=hb1 gA
   have qA:=o13 eA mA hmA (by omega)
   have csA:=csg mA (List.mem_of_getElem? hmA)
   have ixA:∀ {K:List PV→Prop},K (lc mA)→IdxOk 6 (fun _=>enc lc L) (fun _=>(b1:Int) - 1) K:=fun hK=>xC hmA (by omega) vD uO hK
   generalize yB mA.v.q=sgA at *
   cbv
   refine⟨zH om om,ixA ?_⟩
   cbv
   refine cA csA ?_
   cbv
   refine cA cd2 ?_
   cbv
   refine z5 (fun eB=>?_) (fun eB=>?_)
   ·have qB:=o21 eB
    cbv
    (refine rC ?_;cbv)
    exact⟨zX qA.symm,z7 qB,trivial⟩
   ·cbv
    refine zR (fun fB=>?_) (fun fB=>?_)
    ·have gB:b2≠0:=by (try dsimp only [zG] at *);omega
     obtain⟨mB,hmB,hlB⟩:=hb2 gB
     have qB:=o23 eB mB hmB (by omega)
     have csB:=csg mB (List.mem_of_getElem? hmB)
     have ixB:∀ {K:List PV→Prop},K (lc mB)→IdxOk 6 (fun _=>enc lc L) (fun _=>(b2:Int) - 1) K:=fun hK=>xC hmB (by omega) vD uO hK
     generalize yB mB.v.q=sgB at *
     cbv
     refine⟨zH om om,ixB ?_⟩
     cbv
     refine cA csB ?_
     cbv
     (refine rC ?_;cbv)
     exact⟨zX qA.symm,zX qB.symm,trivial⟩
    ·have qB:=o22 eB om
     cbv
     (refine rC ?_;cbv)
     exact⟨zX qA.symm,zM qB,trivial⟩
  ·have qA:=o12 eA om
   cbv
   refine cA cd2 ?_
   cbv
   refine z5 (fun eB=>?_) (fun eB=>?_)
   ·have qB:=o21 eB
    cbv
    (refine rC ?_;cbv)
    exact⟨zM qA,z7 qB,trivial⟩
   ·cbv
    refine zR (fun fB=>?_) (fun fB=>?_)
    ·have gB:b2≠0:=by (try dsimp only [zG] at *);omega
     obtain⟨mB,hmB,hlB⟩:=hb2 gB
     have qB:=o23 eB mB hmB (by omega)
     have csB:=csg mB (List.mem_of_getElem? hmB)
     have ixB:∀ {K:List PV→Prop},K (lc mB)→IdxOk 6 (fun _=>enc lc L) (fun _=>(b2:Int) - 1) K:=fun hK=>xC hmB (by omega) vD uO hK
     generalize yB mB.v.q=sgB at *
     cbv
     refine⟨zH om om,ixB ?_⟩
     cbv
     refine cA csB ?_
     cbv
     (refine rC ?_;cbv)
     exact⟨zM qA,zX qB.symm,trivial⟩
    ·have qB:=o22 eB om
     cbv
     (refine rC ?_;cbv)
     exact⟨zM qA,zM qB,trivial⟩
end Go.Proofs.YtgcpehdkdnkgeaaGreat
