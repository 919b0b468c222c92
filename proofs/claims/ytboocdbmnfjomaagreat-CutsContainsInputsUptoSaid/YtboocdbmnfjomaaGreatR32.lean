/- A part of the proof: RuJ, SpW, RuK, AlA, AlB, AlC. -/
import Derived.Test.YtboocdbmnfjomaaGreatR31
import Derived.Test.YtboocdbmnfjomaaGreatR29
import Derived.Test.YtboocdbmnfjomaaGreatR27
import Derived.Test.YtboocdbmnfjomaaGreatR26
import Derived.Test.YtboocdbmnfjomaaGreatR22
import Derived.Test.YtboocdbmnfjomaaGreatR23
import Derived.Test.YtboocdbmnfjomaaGreatR28
import Derived.Test.YtboocdbmnfjomaaGreatR30
set_option linter.all false
namespace Go.Proofs.YtboocdbmnfjomaaGreat
open Go
set_option maxRecDepth 100000
set_option maxHeartbeats 4000000
def Cy:ty 41=.sli 6 96 [iV 0,.ff,.ff,.nil,.nil,.nil]:=by cbv
def jA (b:Bool) (j:Int) (up:Bool) (v:R) (l:List Mult):List Lem:=if b=true then [⟨j,up,v,l⟩] else []
def FL (j:Int)(x y:Option (Rat×List (Row×Rat))):VO j x y=jA x.isSome j false (zI ((x.map Prod.fst).getD 0)) (mR ((x.map Prod.snd).getD []))++jA y.isSome j true (zI (-(zI ((y.map Prod.fst).getD 0)).q)) (mR ((y.map Prod.snd).getD [])):=by unfold VO jA;grind [z7]
def UJ (L:List Lem)(m:Lem):enc lc (L++[m])=enc lc L++zK [lc m]:=by simp[enc,zK]
def MZ {q:Qry}{P:List Dec}(h:(⟨q,P,[]⟩:Scp).sz (2^20)){L:List Lem}{j:Nat}(hj:j<=4)(hL:Lok L j):(⟨q,P,L⟩:Scp).sz (2^20):=by refine⟨h.q,h.path,⟨by have:=hL.len;grind,λm hm=>?_,λm hm=>(hL.pf m hm).1.mono (by decide)⟩⟩;obtain⟨q,hq⟩:=hL.v m hm;obtain⟨i,_,hf⟩:=hL.lb m hm;rw[hq,z7] at hf;rw[hq];exact zX (hf.mono (vV (Hj i) (by decide)))
structure BndF (q:Qry) (P:List Dec) (j:Nat) (L:List Lem) (p p2:A) (xv yv zv:R) (xl yl:List Mult) (xb yb:Bool):Prop where
 c1:zE 77 [sv ⟨q,P,L⟩,av p] (.tup [rv xv,mlv xl,zM xb])
 c2:zE 24 [av p,rv (zI ((-1:Int):Rat))] (av p2)
 c3:zE 77 [sv ⟨q,P,L⟩,av p2] (.tup [rv yv,mlv yl,zM yb])
 c4:yb=true->zE 78 [rv yv] (rv zv)
 lok:Lok (L++(jA xb j false xv xl++jA yb j true zv yl)) (j+1)
 g:∀ r,YV q P (p::r) j L=YV q P r (j+1) (L++(jA xb j false xv xl++jA yb j true zv yl))
def D9 {x:FQry}(hx:x.small)(hwf:∀ (i:Nat) (f:F),x.g.us[i]?=some f->f.wf ((x.g.n+i:Nat):Int)){P:List Dec}(hP:(⟨x.q,P,[]⟩:Scp).sz (2^20)){j:Nat}{p:A}(hp:x.q.g.us[j]?=some p){L:List Lem}(hL:Lok L j):∃ p2 xv yv zv xl yl xb yb,BndF x.q P j L p p2 xv yv zv xl yl xb yb:=by
 have hp':(x.g.us.map fA)[j]?=some p:=hp;rw[vH] at hp';cases hb:x.g.us[j]? with
 |none=>grind| some b =>
  (rw[hb] at hp';have hpb:p=fA b:=by grind);have hlt:=(wI.1 hb).1
  (have hj:j<=3:=by have:=hx.g.us;omega);have hf:=hx.g.uf b (z8 hb)
  (have hw:=hwf j b hb;have hs:=MZ hP (by omega:j<=4) hL;have n0:0<=x.q.g.n:=by show (0:Int)<=(x.g.n:Int);omega);have n1:x.q.g.n<=256:=by have:=hx.g.n2;show (x.g.n:Int)<=256;omega
  have a1:=GZ ⟨x.q,P,L⟩ b hs n0 n1 (Hf rfl hx hL.lb hj (hf.mono (by decide) (by decide)) hw);have a3:=GZ ⟨x.q,P,L⟩ (b.scale (-1)) hs n0 n1 (Hf rfl hx hL.lb hj ((hf.scale uA).mono (by decide) (by decide)) hw.scale);have a2:=rL (q:=-1) hf uA (by decide) (by decide) (by decide);obtain⟨l1,l2⟩:=J3 hx hwf (path:=P) hb hL;rw[FL] at l1;refine⟨fA (b.scale (-1)),_,_,_,_,_,_,_,⟨by simp_all,by simp_all,a3,λh=>?_,l1,λr=>?_⟩⟩
  ·refine LN _ ?_;cases hy:(⟨x.q,P,L⟩:Scp).above (b.scale (-1)) with
   |none=>grind| some v=>exact (zX (l2 v hy)).mono (by decide)
  {rw[hpb];show YV x.q P r (j+1) (L++VO j ((⟨x.q,P,L⟩:Scp).above (fA b).f) ((⟨x.q,P,L⟩:Scp).above ((fA b).f.scale (-1))))=_;rw[kQ,FL]}
def RC (raw : List UInt8) : zE 30 [svN (fdS raw)] (sv (fdS raw).bounded) := by
  refine sF Tryz.f30 ?_
  have sm := vD raw 0
  have hwf := Gj raw 0
  have hz : (fdS raw).sz (2^20) := by
    have g := WK raw
    exact ⟨g.q.mono (by decide), ⟨g.path.len, fun d hd => (g.path.sz d hd).mono (by decide)⟩, ⟨by show 0 < 2^38; decide, fun m hm => absurd hm (by simp [fdS]), fun m hm => absurd hm (by simp [fdS])⟩⟩
  have hbg : (fdS raw).bounded = ⟨(fdY raw 0).1.q, (fdS raw).path, YV (fdY raw 0).1.q (fdS raw).path (fdY raw 0).1.q.g.us 0 []⟩ := rfl
  have hsd : fdS raw = ⟨(fdY raw 0).1.q, (fdS raw).path, []⟩ := rfl
  rw [hbg]
  generalize (fdS raw).path = path at *
  rw [hsd] at hz ⊢
  have hF := fun j p L hp hL => D9 (j := j) (p := p) (L := L) sm hwf hz hp hL
  clear hbg hsd hwf hz
  have hul : (fdY raw 0).1.q.g.us.length ≤ 4 := by show (List.map fA _).length ≤ 4; rw [yN]; exact sm.g.us
  clear sm
  generalize (fdY raw 0).1.q = Q at *
  have cof := s32 (-1) (by decide) (by decide)
  obtain ⟨M1, hM1⟩ := ex (zI ((-1 : Int) : Rat))
  have hF' : ∀ (j : Nat) (p : A) (L : List Lem), Q.g.us[j]? = some p → Lok L j → ∃ p2 xv yv zv xl yl xb yb, BndF Q path j L p p2 xv yv zv xl yl xb yb := hF
  clear hF
  obtain ⟨⟨n, us, os⟩, ⟨lo, hi', rows⟩, ⟨ts, c⟩⟩ := Q
  dsimp only at hF' hul
  rw [hM1] at cof
  obtain ⟨G, hG⟩ := ex (YV ⟨⟨n, us, os⟩, ⟨lo, hi', rows⟩, ⟨ts, c⟩⟩ path)
  rw [hG]
  have hGn : ∀ j L, G [] j L = L := fun j L => by rw [← hG]; rfl
  obtain ⟨L9, hL9⟩ := ex (G us 0 [])
  rw [hL9]
  cbv
  refine gD 10 (by cbv) (by cbv) ?_
  cbv
  refine zZ (σ := Nat × List Lem) (fun s => ⟨[(1, .ptr 1 0), (2, .ptr 2 0), (3, .ptr 3 0), (4, iV s.1)],
      [(1, .box [iV n, alv us, alv os, rlv lo, rlv hi', alv rows, tsv ts, zM c.neg, nat c.num, nat c.den, dlv path, .nil]), (2, .box [iV 0, .nil, .nil, .nil, .nil, .nil, .nil, .ff, .nil, .nil, .nil, .nil]), (3, .box [iV n, alv us, alv os, rlv lo, rlv hi', alv rows, tsv ts, zM c.neg, nat c.num, nat c.den, dlv path, zW 61 6 s.2.length]), (61, .lent 6 (fun _ => enc lc s.2))]⟩)
    (fun s => s.1 ≤ us.length ∧ G (us.drop s.1) s.1 s.2 = L9 ∧ Lok s.2 s.1) (fun s => us.length - s.1)
    (0, []) ⟨xK _, hL9, ⟨fun m hm => absurd hm (by simp), by simp, fun m hm => absurd hm (by simp), fun m hm => absurd hm (by simp)⟩⟩
    (.trans (wkZ (ps' := ⟨[(1, .ptr 1 0), (2, .ptr 2 0), (3, .ptr 3 0), (4, iV (((0 : Nat) : Int)))], [(1, .box [iV n, alv us, alv os, rlv lo, rlv hi', alv rows, tsv ts, zM c.neg, nat c.num, nat c.den, dlv path, .nil]), (2, .box [iV 0, .nil, .nil, .nil, .nil, .nil, .nil, .ff, .nil, .nil, .nil, .nil]), (3, .box [iV n, alv us, alv os, rlv lo, rlv hi', alv rows, tsv ts, zM c.neg, nat c.num, nat c.den, dlv path, .emp])]⟩))
    (.trans (.adoptB (ps := ⟨[(1, .ptr 1 0), (2, .ptr 2 0), (3, .ptr 3 0), (4, iV (((0 : Nat) : Int)))], [(1, .box [iV n, alv us, alv os, rlv lo, rlv hi', alv rows, tsv ts, zM c.neg, nat c.num, nat c.den, dlv path, .nil]), (2, .box [iV 0, .nil, .nil, .nil, .nil, .nil, .nil, .ff, .nil, .nil, .nil, .nil]), (3, .box [iV n, alv us, alv os, rlv lo, rlv hi', alv rows, tsv ts, zM c.neg, nat c.num, nat c.den, dlv path, .emp])]⟩) (cs := [iV n, alv us, alv os, rlv lo, rlv hi', alv rows, tsv ts, zM c.neg, nat c.num, nat c.den, dlv path, .emp]) 61 6 3 11 rfl rfl rfl)
    (.trans (.pub 61 rfl rfl) (.le okZ ?_ rfl)))) ?_
  · cbv
    exact ⟨okA, okA, okA, zC rfl, trivial⟩
  intro s hs
  obtain ⟨j, L⟩ := s
  obtain ⟨h1, h2, h3⟩ := hs
  dsimp only at h1 h2 h3
  clear hL9
  cbv
  refine zH (fun h => ?_) (fun h => ?_)
  · rw [zB] at h
    have hlt : j < us.length := by exact om
    obtain ⟨p, hp⟩ := zY hlt
    obtain ⟨p2, xv, yv, zv, xl, yl, xb, yb, F⟩ := hF' j p L hp h3
    have g2 := F.g (us.drop (j + 1))
    rw [hG, ← yI hp, h2] at g2
    have c1 := F.c1
    have c2 := F.c2
    have c3 := F.c3
    have c4 := F.c4
    have lk := F.lok
    have lkL : L.length ≤ 8 := by have := h3.len; omega
    clear F hF' hG h2 h3 hGn
    rw [hM1] at c2
    have hT : ((enc lc L).drop 0).take L.length = enc lc L := by rw [v5, ← zB lc L, v6]
    have hfr : 0 + L.length ≤ (enc lc L).length := by grind [zB]
    have hLn := lkL
    cbv
    refine yT hp vP qD ?_
    cbv
    refine Gb 61 rfl (by cbv; repeat' first | exact trivial | exact ⟨hfr⟩ | apply And.intro) ?_
    cbv
    refine xE rfl (by exact ⟨⟨lR, lR, lR, lR, lR, lR, lR, lR, lR, lR, lR, zT hT, trivial⟩, okA, trivial⟩) c1 rfl ?_
    cbv
    refine uI 12 [(10, 9)] (by cbv) (by cbv) (by cbv) ?_
    cbv
    refine Gb 61 rfl (by cbv; repeat' first | exact trivial | exact ⟨hfr⟩ | apply And.intro) ?_
    cbv
    refine dA cof ?_
    cbv
    refine dA c2 ?_
    cbv
    refine wH (by exact ⟨⟨lR, lR, lR, lR, lR, lR, lR, lR, lR, lR, lR, zT hT, trivial⟩, okA, trivial⟩) c3 rfl ?_
    cbv
    refine bC (σ := List Lem) (fun Lx => ⟨[(1, .ptr 1 0), (2, .ptr 2 0), (3, .ptr 3 0), (4, iV j), (9, .ptr 9 0), (10, mlv yl), (11, zM yb)],
        [(1, .box [iV n, alv us, alv os, rlv lo, rlv hi', alv rows, tsv ts, zM c.neg, nat c.num, nat c.den, dlv path, .nil]), (2, .box [iV 0, .nil, .nil, .nil, .nil, .nil, .nil, .ff, .nil, .nil, .nil, .nil]), (3, .box [iV n, alv us, alv os, rlv lo, rlv hi', alv rows, tsv ts, zM c.neg, nat c.num, nat c.den, dlv path, zW 61 6 Lx.length]), (61, .log 6 (fun _ => enc lc Lx)), (9, .box [zM yv.neg, nat yv.num, nat yv.den])]⟩)
      (fun Lx => Lx = L ++ jA xb j false xv xl) (fun e => ?_) (fun e => ?_) (fun Lx hLx => ?_)
    · cbv
      refine L1 ?_
      cbv
      refine Sf (.lend 61 4 rfl rfl trivial) ?_
      cbv
      refine Vj Cy rfl rfl rfl (by grind) rfl ⟨by simp [zK, xC]⟩ (z3 oM (by simp [zK, zB]; exact om)) rfl ?_
      cbv
      refine ⟨L ++ [⟨j, false, xv, xl⟩], by unfold jA; grind, .le okZ ?_ rfl⟩
      cbv
      refine ⟨okA, okA, ⟨lR, lR, lR, lR, lR, lR, lR, lR, lR, lR, lR, zR rfl (by simp [zK, zB]), trivial⟩, zC ?_, okA, trivial⟩
      rw [UJ]
      rfl
    · cbv
      refine ⟨L, by unfold jA; grind, .le okZ ?_ rfl⟩
      cbv
      exact ⟨okA, okA, okA, zC rfl, okA, trivial⟩
    · have hxl : Lx.length ≤ 9 := by rw [hLx, vE]; have : (jA xb j false xv xl).length ≤ 1 := by unfold jA; grind
                                     omega
      have g3 : L ++ (jA xb j false xv xl ++ jA yb j true zv yl) = Lx ++ jA yb j true zv yl := by grind
      rw [g3] at g2 lk
      clear g3 hLx c1 c2 c3 cof hT hfr
      cbv
      refine zS (fun e => ?_) (fun e => ?_)
      · have g3 : jA yb j true zv yl = [⟨j, true, zv, yl⟩] := by unfold jA; grind
        rw [g3] at g2 lk
        have c4' := c4 e
        clear c4 g3
        cbv
        refine zP 8 (by cbv) ?_
        cbv
        refine dA c4' ?_
        cbv
        refine Vj Cy rfl rfl rfl (by simp [zB]) rfl ⟨by simp [zK, xC]⟩ (z3 oM (by simp [zK, zB]; exact om)) rfl ?_
        cbv
        refine ⟨zF om om, (j + 1, Lx ++ [⟨j, true, zv, yl⟩]), ⟨om, g2.symm, lk⟩, om, .trans (.pub 61 rfl rfl) (.le okZ ?_ rfl)⟩
        cbv
        refine ⟨okA, okA, ⟨lR, lR, lR, lR, lR, lR, lR, lR, lR, lR, lR, zR rfl (by simp [zK, zB]), trivial⟩, zC ?_, trivial⟩
        rw [UJ]
        rfl
      · have g3 : jA yb j true zv yl = [] := by unfold jA; grind
        rw [g3, uT] at g2 lk
        clear c4 g3
        cbv
        refine ⟨zF om om, (j + 1, Lx), ⟨om, g2.symm, lk⟩, om, .trans (.pub 61 rfl rfl) (.le okZ ?_ rfl)⟩
        cbv
        exact ⟨okA, okA, okA, zC rfl, trivial⟩
  · have hj : j = us.length := by rw [zB] at h; exact om
    rw [hj, w5, hGn] at h2
    subst h2
    have hT : ((enc lc L).drop 0).take L.length = enc lc L := by rw [v5, ← zB lc L, v6]
    have hfr : 0 + L.length ≤ (enc lc L).length := by grind [zB]
    clear hF' hG hGn h3
    cbv
    refine Gb 61 rfl (by cbv; repeat' first | exact trivial | exact ⟨hfr⟩ | apply And.intro) ?_
    cbv
    (refine rC ?_; cbv)
    exact ⟨lR, lR, lR, lR, lR, lR, lR, lR, lR, lR, lR, zT hT, trivial⟩
def Pi {s:Scp}{x:FQry}(hq:s.q=x.q)(hx:x.small)(hp:Dsz 43 s.path){r:Row}{f:F}(h:s.fIn r=some f):f.fl 200 3000:=by
 unfold Scp.fIn at h;split at h
 ·split at h
  ·cases hy:s.q.r.lo[r.i.toNat]? with
   |none=>rw[hy] at h;cases h
   |some y =>
    rw[hy] at h;cases h;have hm:=z8 hy;rw[hq] at hm;obtain⟨b,hb,rfl⟩:=y9.1 hm;dsimp only;rw[z7];exact ((fC r.i).sub (kJ (hx.r.bf b hb).1)).mono oM oM
  ·split at h
   ·cases hy:s.q.r.hi[r.i.toNat]? with
    |none=>rw[hy] at h;cases h
    |some y =>
     rw[hy] at h;cases h;have hm:=z8 hy;rw[hq] at hm;obtain⟨b,hb,rfl⟩:=y9.1 hm;dsimp only;rw[z7];exact ((kJ (hx.r.bf b hb).2).sub (fC r.i)).mono oM oM
   ·split at h
    ·cases hy:s.q.r.rows[r.i.toNat]? with
     |none=>rw[hy] at h;cases h
     |some y =>
      rw[hy] at h;cases h;have hm:=z8 hy;rw[hq] at hm;obtain⟨b,hb,rfl⟩:=y9.1 hm;dsimp only;rw[kQ];have:=hx.g.n2;exact ((hx.r.rf b hb).add zero_fl).mono oM oM
    {split at h;{split at h;{rename_i d hd;have hz:=(hp.sz d (z8 hd)).fits (by decide);split at h;{split at h;{cases h;exact ((fC d.i).sub (kJ hz)).mono oM oM};{split at h;{cases h;exact (((fC d.i).sub (kJ hz)).scale uA).mono oM oM};{cases h}}};{cases h}};{cases h}};{cases h}}
 {cases h}
def Gg {s:Scp}{x:FQry}(hq:s.q=x.q)(hx:x.small)(hp:Dsz 43 s.path)(hL:LB KK s.lems){r:Row}{f:F}(h:s.fm r=some f):f.fl 2718660 3000:=by
 by_cases h5:5<=r.k
 ·have h':=h;unfold Scp.fm at h';split at h';{cases h'};rw[if_neg oM] at h';unfold Scp.fUn at h';split at h'
  ·(rename_i hi;have hi':r.i=((r.i.toNat:Nat):Int):=by omega);exact (As hq hx Kr hL h5 hi' h).mono (by have:=Hj r.i.toNat;omega) (yX _)
  {cases h'}
 {unfold Scp.fm at h;split at h;{cases h};rw[if_pos oM] at h;exact (Pi hq hx hp h).mono oM (yX _)}
def KA {s:Scp}{g k:Nat}(hg:∀ r f,s.fm r=some f->f.fl g 3000):∀ {l:List Mult} {acc f:F} {a n:Nat},(∀ m,m∈l->Fits k m.c.q)->acc.fl a n->sumL s acc l=some f->f.fl (a+(g+k+5)*l.length) (n+3000*l.length)
 |[],acc,f,a,n,_,ha,h=>by cases h;simpa using ha
 |m::r,acc,f,a,n,hm,ha,h=>by
  unfold sumL at h;cases hx:s.fm m.row with
  |none=>rw[hx] at h;cases h
  |some f0 =>
   rw[hx] at h;have:=KA hg (λu hu=>hm u (wJ _ hu)) (ha.add ((hg _ _ hx).scale (hm m wZ))) h;exact this.mono (by rw[d5,Yk];omega) (by rw[d5];omega)
def Sa (raw:List UInt8):(fdS raw).bounded.q=(fdY raw 0).1.q:=rfl
def J4 (raw:List UInt8):Dsz 43 (fdS raw).bounded.path:=(WK raw).path
instance:DecidableEq A:=λa b=>if h:a.ts=b.ts/\a.c=b.c then isTrue (by obtain⟨x,y⟩:=a;obtain⟨x',y'⟩:=b;simp only at h;rw[h.1,h.2]) else isFalse (λe=>h (by rw[e];exact⟨rfl,rfl⟩))
def Mt (s:Scp)(j:Int)(hs:s.sz (2^20)):zE 88 [sv s,iV j] (.tup [zM (s.onU j),zM (s.offU j)]):=by
 refine sF Tryz.f88 ?_;have cb:=XI s j hs.lems;have cd1:=tD s 1 j (hs.path.mono (by decide));have cd2:=tD s 2 j (hs.path.mono (by decide));have csg:∀ m,m∈s.lems->zE 26 [rv m.v] (iV (yF m.v.q)):=λm hm=>s35 m.v (by have:=(hs.lems.sz m hm).n;omega);have hlen:=hs.lems.len;have hbb:∀ k:Nat,(k=(s.best j).1\/k=(s.best j).2)->k≠0->∃ m,s.lems[k-1]?=some m/\k-1<s.lems.length:=λk hk h0=>by obtain⟨m,hm,_⟩:=sA hk h0;exact⟨m,hm,(wI.1 hm).1⟩
 have hb1:=hbb _ (.inl rfl);have hb2:=hbb _ (.inr rfl);clear hbb;have hv:∀ (k:Nat) m,s.lems[k-1]?=some m->wP s.lems k=m.v.q:=λk m h=>by unfold wP;rw[h];rfl
 have hon:s.onU j=(s.dcd 1 j || (decide (0<(s.best j).1)&&decide (0<=yF (wP s.lems (s.best j).1)))):=rfl;have hoff:s.offU j=(s.dcd 2 j || (decide (0<(s.best j).2)&&decide (yF (wP s.lems (s.best j).2)<=0))):=rfl;generalize s.onU j=on at *;generalize s.offU j=off at *;generalize s.dcd 1 j=d1 at *;generalize s.dcd 2 j=d2 at *;generalize (s.best j).1=b1 at *;generalize (s.best j).2=b2 at *;have o11:d1=true->on=true:=λh=>by rw[hon,h];rfl
 have o12:d1=false->b1=0->on=false:=λh g=>by rw[hon,h,g];rfl
 have o13:d1=false->∀ m,s.lems[b1-1]?=some m->0<b1->on=decide (0<=yF m.v.q):=λh m hm g=>by rw[hon,h,hv b1 m hm,decide_eq_true g];rfl
 have o21:d2=true->off=true:=λh=>by rw[hoff,h];rfl
 have o22:d2=false->b2=0->off=false:=λh g=>by rw[hoff,h,g];rfl
 have o23:d2=false->∀ m,s.lems[b2-1]?=some m->0<b2->off=decide (yF m.v.q<=0):=λh m hm g=>by rw[hoff,h,hv b2 m hm,decide_eq_true g];rfl
 clear hon hoff hv hs;obtain⟨⟨⟨gn,us,os⟩,⟨lo,hi,rows⟩,⟨ts,c1,c2,c3⟩⟩,path,L⟩:=s;dsimp only at csg hlen hb1 hb2 o13 o23;cbv;refine cA cb ?_;cbv;refine cA cd1 ?_;cbv;refine yH (λeA=>?_) (λeA=>?_)
 ·have qA:=o11 eA;cbv;refine cA cd2 ?_;cbv;refine yH (λeB=>?_) (λeB=>?_)
  ·have qB:=o21 eB;cbv
   (refine rC ?_;cbv)
   exact⟨yL qA,yL qB,trivial⟩
  ·cbv;refine zU (λfB=>?_) (λfB=>?_)
   ·(have gB:b2≠0:=by exact om);obtain⟨mB,hmB,hlB⟩:=hb2 gB
    have qB:=o23 eB mB hmB oM;have csB:=csg mB (z8 hmB);have ixB:∀ {K:List PV->Prop},K (lc mB)->IdxOk 6 (λ_=>enc lc L) (λ_=>(b2:Int)-1) K:=λhK=>vN hmB oM qI jO hK;generalize yF mB.v.q=sgB at *;cbv;refine⟨zF (by exact om) (by exact om),ixB ?_⟩;cbv;refine cA csB ?_;cbv
    (refine rC ?_;cbv)
    exact⟨yL qA,z4 qB.symm,trivial⟩
   ·have qB:=o22 eB (by exact om);cbv
    (refine rC ?_;cbv)
    exact⟨yL qA,zN qB,trivial⟩
 ·cbv;refine zU (λfA=>?_) (λfA=>?_)
  ·(have gA:b1≠0:=by exact om);obtain⟨mA,hmA,hlA⟩:=hb1 gA
   have qA:=o13 eA mA hmA oM;have csA:=csg mA (z8 hmA);have ixA:∀ {K:List PV->Prop},K (lc mA)->IdxOk 6 (λ_=>enc lc L) (λ_=>(b1:Int)-1) K:=λhK=>vN hmA oM qI jO hK;generalize yF mA.v.q=sgA at *;cbv;refine⟨zF (by exact om) (by exact om),ixA ?_⟩;cbv;refine cA csA ?_;cbv;refine cA cd2 ?_;cbv;refine yH (λeB=>?_) (λeB=>?_)
   ·have qB:=o21 eB;cbv
    (refine rC ?_;cbv)
    exact⟨z4 qA.symm,yL qB,trivial⟩
   ·cbv;refine zU (λfB=>?_) (λfB=>?_)
    ·(have gB:b2≠0:=by exact om);obtain⟨mB,hmB,hlB⟩:=hb2 gB
     have qB:=o23 eB mB hmB oM;have csB:=csg mB (z8 hmB);have ixB:∀ {K:List PV->Prop},K (lc mB)->IdxOk 6 (λ_=>enc lc L) (λ_=>(b2:Int)-1) K:=λhK=>vN hmB oM qI jO hK;generalize yF mB.v.q=sgB at *;cbv;refine⟨zF (by exact om) (by exact om),ixB ?_⟩;cbv;refine cA csB ?_;cbv
     (refine rC ?_;cbv)
     exact⟨z4 qA.symm,z4 qB.symm,trivial⟩
    ·have qB:=o22 eB (by exact om);cbv
     (refine rC ?_;cbv)
     exact⟨z4 qA.symm,zN qB,trivial⟩
  ·have qA:=o12 eA (by exact om);cbv;refine cA cd2 ?_;cbv;refine yH (λeB=>?_) (λeB=>?_)
   ·have qB:=o21 eB;cbv
    (refine rC ?_;cbv)
    exact⟨zN qA,yL qB,trivial⟩
   ·cbv;refine zU (λfB=>?_) (λfB=>?_)
    ·(have gB:b2≠0:=by exact om);obtain⟨mB,hmB,hlB⟩:=hb2 gB
     have qB:=o23 eB mB hmB oM;have csB:=csg mB (z8 hmB);have ixB:∀ {K:List PV->Prop},K (lc mB)->IdxOk 6 (λ_=>enc lc L) (λ_=>(b2:Int)-1) K:=λhK=>vN hmB oM qI jO hK;generalize yF mB.v.q=sgB at *;cbv;refine⟨zF (by exact om) (by exact om),ixB ?_⟩;cbv;refine cA csB ?_;cbv
     (refine rC ?_;cbv)
     exact⟨zN qA,z4 qB.symm,trivial⟩
    ·have qB:=o22 eB (by exact om);cbv
     (refine rC ?_;cbv)
     exact⟨zN qA,zN qB,trivial⟩
abbrev wR (l:List Row):PV:=.sl (λ_=>enc rwc l)
def gP (a:Row):y4 qV (rwc a)=true:=rfl
def dF (a:Row):(rwc a).length=4:=rfl
def u7:ty 47=.sli 4 32 [iV 0,iV 0,iV 0,iV 0]:=by cbv
structure AllSeq (s:Scp) (A B C D:Nat->List Row):Prop where
 a0:A 0=[]
 a1:∀ i:Nat,A (i+1)=A i++[⟨1,i,0,0⟩,⟨2,i,0,0⟩]
 b0:B 0=A s.q.g.n.toNat
 b1:∀ i:Nat,B (i+1)=B i++[⟨3,i,0,0⟩]
 c0:C 0=B s.q.r.rows.length
 c1:∀ i:Nat,C (i+1)=C i++(if (s.fm ⟨4,(i:Int),0,0⟩).isSome=true then [⟨4,i,0,0⟩] else [])
 d0:D 0=C s.path.length
 d1:∀ j:Nat,D (j+1)=D j++s.rowsU j
 e:s.all=D s.q.g.us.length
 la:∀ i,(A i).length<=2*i
 lb:∀ i,(B i).length<=2*s.q.g.n.toNat+i
 lc:∀ i,(C i).length<=2*s.q.g.n.toNat+s.q.r.rows.length+i
 ld:∀ i,(D i).length<=2*s.q.g.n.toNat+s.q.r.rows.length+s.path.length+12*i
def Ub (s:Scp)(j:Int):(s.rowsU j).length<=12:=by
 unfold Scp.rowsU Scp.rowsOn Scp.rowsOff Scp.rowsOpen;simp only[vE]
 repeat' split
 all_goals simp
def Kf {s:Scp}(hv:s.q.valid=true):∃ A B C D,AllSeq s A B C D:=by
 refine⟨λi=>(List.range i).flatMap λi:Nat=>[(⟨1,(i:Int),0,0⟩:Row),⟨2,(i:Int),0,0⟩],?_⟩;generalize hA:(λi=>(List.range i).flatMap λi:Nat=>[(⟨1,(i:Int),0,0⟩:Row),⟨2,(i:Int),0,0⟩])=A;refine⟨λk=>A s.q.g.n.toNat++(List.range k).map λi:Nat=>(⟨3,(i:Int),0,0⟩:Row),?_⟩;generalize hB:(λk=>A s.q.g.n.toNat++(List.range k).map λi:Nat=>(⟨3,(i:Int),0,0⟩:Row))=B;refine⟨λk=>B s.q.r.rows.length++((List.range k).filter λi:Nat=>(s.fm ⟨4,(i:Int),0,0⟩).isSome).map λi:Nat=>(⟨4,(i:Int),0,0⟩:Row),?_⟩;generalize hC:(λk=>B s.q.r.rows.length++((List.range k).filter λi:Nat=>(s.fm ⟨4,(i:Int),0,0⟩).isSome).map λi:Nat=>(⟨4,(i:Int),0,0⟩:Row))=C;refine⟨λk=>C s.path.length++(List.range k).flatMap λj:Nat=>s.rowsU (j:Int),?_⟩;have la:∀ i,(A i).length<=2*i:=λi=>by
  rw[<-hA];induction i with
  |zero=>simp| succ i ih =>
   show ((List.range (i+1)).flatMap _).length<=_;rw[nR,Vv,vE];have:((List.range i).flatMap λi:Nat=>[(⟨1,(i:Int),0,0⟩:Row),⟨2,(i:Int),0,0⟩]).length<=2*i:=ih;simp only[Kk,List.flatMap_nil,vE,d5,dZ];omega
 have lb:∀ i,(B i).length<=2*s.q.g.n.toNat+i:=λi=>by rw[<-hB];have:=la s.q.g.n.toNat;simp;omega
 have lc:∀ i,(C i).length<=2*s.q.g.n.toNat+s.q.r.rows.length+i:=λi=>by rw[<-hC];have h1:=lb s.q.r.rows.length;have h2:=List.length_filter_le (λi:Nat=>(s.fm ⟨4,(i:Int),0,0⟩).isSome) (List.range i);rw[Kj] at h2;simp only[vE,yN];omega
 refine⟨by rw[<-hA];rfl,λi=>by rw[<-hA];simp[nR,Vv],by rw[<-hB];simp,λi=>by rw[<-hB];simp[nR],by rw[<-hC];simp,λi=>by
   rw[<-hC];show B _++_=_;rw[nR,List.filter_append,jQ,<-YM];congr 1;by_cases h:(s.fm ⟨4,(i:Int),0,0⟩).isSome=true;{rw[if_pos h];simp[h]}
   ·rw[if_neg h];simp[h],by simp,λj=>by simp[nR,Vv],?_,la,lb,lc,λi=>?_⟩
 {unfold Scp.all;rw[if_neg (by rw[hv];decide),<-hC,<-hB,<-hA]}
 ·have h1:=lc s.path.length;show (C _++_).length<=_;rw[vE];have:((List.range i).flatMap λj:Nat=>s.rowsU (j:Int)).length<=12*i:=by
   induction i with
   |zero=>simp| succ i ih =>
    rw[nR,Vv,vE];have:=Ub s (i:Int);simp only[Kk,List.flatMap_nil,uT];omega
  omega
def RE (s:Scp)(hs:s.sz (2^20))(hn:s.q.g.n<=1000000)(hr:s.q.r.rows.length<=1000000)(hp:s.path.length<=1000000)(hu:s.q.g.us.length<=1000000):zE 38 [sv s] (wR s.all):=by
 refine sF Tryz.f38 ?_;have cv:=Yr s.q (hs.q.mono (by decide));have cf:=λi:Nat=>XH s ⟨4,i,0,0⟩ hs;have cb:=λj:Nat=>XI s j hs.lems;have cph:=λj:Nat=>Mt s j hs;have cd1:=λj:Nat=>tD s 1 j (hs.path.mono (by decide));have cd2:=λj:Nat=>tD s 2 j (hs.path.mono (by decide));cases hv:s.q.valid with
 |false =>
  (have hall:s.all=[]:=by unfold Scp.all;rw[if_pos hv]);rw[hall]
  rw[hv] at cv;obtain⟨⟨⟨gn,us,os⟩,⟨lo,hi,rows⟩,⟨ts,c1,c2,c3⟩⟩,path,L⟩:=s;cbv;refine cA cv ?_;cbv;refine pA rfl ?_;cbv;exact rA
 |true =>
  (obtain⟨A,B,C,D,Q⟩:=Kf hv;rw[hv] at cv;have fa1:=Q.a1;have fb1:=Q.b1;have fc1:=Q.c1;have fd1:=Q.d1;have la:=Q.la;have lb:=Q.lb;have lc':=Q.lc;have ld:=Q.ld;have hN:s.q.g.n<=0\/s.q.g.n=(s.q.g.n.toNat:Int):=by omega);rw[Q.e]
  (have a0:=Q.a0;have b0:=Q.b0;have c0:=Q.c0;have d0:=Q.d0;have un:∀ j:Nat,s.rowsU j=(if s.onU j=true then s.rowsOn j else [])++(if s.offU j=true then s.rowsOff j else [])++(if s.onU j=true\/s.offU j=true then [] else s.rowsOpen j):=λj=>rfl;have ro1:∀ j:Nat,s.dcd 1 j=true->s.rowsOn j=[⟨6,j,0,0⟩,⟨7,j,0,0⟩,⟨8,j,0,0⟩]:=λj h=>by unfold Scp.rowsOn;rw[if_pos h]);have ro2:∀ j:Nat,s.dcd 1 j=false->s.rowsOn j=[⟨6,j,0,0⟩,⟨7,j,((s.best j).1:Int),0⟩,⟨8,j,((s.best j).1:Int),0⟩]:=λj h=>by unfold Scp.rowsOn;rw[if_neg (by rw[h];decide)]
  (have rf1:∀ j:Nat,s.dcd 2 j=true->s.rowsOff j=[⟨5,j,0,0⟩,⟨9,j,0,0⟩,⟨10,j,0,0⟩]:=λj h=>by unfold Scp.rowsOff;rw[if_pos h]);have rf2:∀ j:Nat,s.dcd 2 j=false->s.rowsOff j=[⟨5,j,0,0⟩,⟨9,j,0,((s.best j).2:Int)⟩,⟨10,j,0,((s.best j).2:Int)⟩]:=λj h=>by unfold Scp.rowsOff;rw[if_neg (by rw[h];decide)]
  (have rop:∀ j:Nat,s.rowsOpen j=[⟨5,j,0,0⟩,⟨6,j,0,0⟩]++(if 0<(s.best j).1 then [⟨11,j,((s.best j).1:Int),0⟩] else [])++(if 0<(s.best j).2 then [⟨12,j,0,((s.best j).2:Int)⟩] else [])++(if 0<(s.best j).1/\0<(s.best j).2 then [⟨13,j,((s.best j).1:Int),((s.best j).2:Int)⟩] else []):=λj=>rfl;have bl:∀ j:Nat,(s.best j).1<2^40/\(s.best j).2<2^40:=λj=>by have:=hs.lems.len;constructor;{rcases mD (s.best j).1 with h|h;{omega};{obtain⟨m,hm,_⟩:=sA (s:=s) (unit:=j) (.inl rfl) oM;have:=(wI.1 hm).1;omega}};{rcases mD (s.best j).2 with h|h;{omega};{obtain⟨m,hm,_⟩:=sA (s:=s) (unit:=j) (.inr rfl) oM;have:=(wI.1 hm).1;omega}});have fms:∀ i:Nat,∃ (V:Go.Proofs.YtboocdbmnfjomaaGreat.A) (W:Bool),(s.fm ⟨4,(i:Int),0,0⟩).isSome=W/\zE 39 [sv s,rwv ⟨4,i,0,0⟩] (.tup [av V,zM W]):=λi=>⟨_,_,rfl,cf i⟩;have bsts:∀ j:Nat,∃ (x1 x2:Nat) (on off d1 d2:Bool) (ron rof:List Row),zE 87 [sv s,iV j] (.tup [iV x1,iV x2])/\zE 88 [sv s,iV j] (.tup [zM on,zM off]) /\
    zE 76 [sv s,iV 1,iV j] (zM d1)/\zE 76 [sv s,iV 2,iV j] (zM d2)/\x1<2^40/\x2<2^40 /\
    D (j+1)=D j++((if on=true then ron else [])++(if off=true then rof else [])++(if on=true\/off=true then [] else [⟨5,j,0,0⟩,⟨6,j,0,0⟩]++(if 0<x1 then [⟨11,j,(x1:Int),0⟩] else [])++(if 0<x2 then [⟨12,j,0,(x2:Int)⟩] else [])++(if 0<x1/\0<x2 then [⟨13,j,(x1:Int),(x2:Int)⟩] else []))) /\
    (d1=true->ron=[⟨6,j,0,0⟩,⟨7,j,0,0⟩,⟨8,j,0,0⟩])/\(d1=false->ron=[⟨6,j,0,0⟩,⟨7,j,(x1:Int),0⟩,⟨8,j,(x1:Int),0⟩])/\(d2=true->rof=[⟨5,j,0,0⟩,⟨9,j,0,0⟩,⟨10,j,0,0⟩])/\(d2=false->rof=[⟨5,j,0,0⟩,⟨9,j,0,(x2:Int)⟩,⟨10,j,0,(x2:Int)⟩]):=λj =>
   ⟨_,_,_,_,_,_,_,_,cb j,cph j,cd1 j,cd2 j,(bl j).1,(bl j).2,by rw[fd1 j,un j,rop j],ro1 j,ro2 j,rf1 j,rf2 j⟩
  clear ro1 ro2 rf1 rf2 rop bl un cb cph cd1 cd2 fd1 cf Q hs hv;generalize hNn:s.q.g.n.toNat=N at *;have fms':∀ i:Nat,∃ (V:Go.Proofs.YtboocdbmnfjomaaGreat.A) (W:Bool),zE 39 [sv s,rwv ⟨4,i,0,0⟩] (.tup [av V,zM W])/\C (i+1)=C i++(if W=true then [⟨4,i,0,0⟩] else []):=λi=>by obtain⟨V,W,h1,h2⟩:=fms i;exact⟨V,W,h2,by rw[<-h1];exact fc1 i⟩
  (clear fms fc1;obtain⟨⟨⟨gn,us,os⟩,⟨lo,hi,rows⟩,⟨ts,c1,c2,c3⟩⟩,path,L⟩:=s;dsimp only at hn hr hp hu hN hNn lb lc' ld b0 c0 d0;have hN1:N<=1000000:=by omega);have lA:∀ i,i<=N->(A i).length<=100000000:=λi h=>by have:=la i;omega
  (have lB:∀ i,i<=rows.length->(B i).length<=100000000:=λi h=>by have:=lb i;omega);have lC:∀ i,i<=path.length->(C i).length<=100000000:=λi h=>by have:=lc' i;omega
  (have lD:∀ i,i<=us.length->(D i).length<=100000000:=λi h=>by have:=ld i;omega);clear la lb lc' ld
  cbv;refine cA cv ?_;cbv;refine s4 rfl ?_;cbv;refine zZ (σ:=Nat) (λi=>⟨[(1,.ptr 1 0),(3,zW 3 4 ((A i).length)),(4,iV i)],[(1,.box [iV gn,alv us,alv os,rlv lo,rlv hi,alv rows,tsv ts,zM c1,nat c2,nat c3,dlv path,llv L]),(3,z5 4 (enc rwc (A i)))]⟩)
   (λi=>i<=N) (λi=>N-i) 0 (xK _)
   (.trans (wkZ (ps':=⟨[(1,.ptr 1 0),(3,.nil),(4,iV (((0:Nat):Int)))],[(1,.box [iV gn,alv us,alv os,rlv lo,rlv hi,alv rows,tsv ts,zM c1,nat c2,nat c3,dlv path,llv L])]⟩)) (.trans (.adoptT (ps:=⟨[(1,.ptr 1 0),(3,.nil),(4,iV (((0:Nat):Int)))],[(1,.box [iV gn,alv us,alv os,rlv lo,rlv hi,alv rows,tsv ts,zM c1,nat c2,nat c3,dlv path,llv L])]⟩) 3 4 3 rfl rfl) (wkY (by cbv;repeat' first|exact trivial|exact lR|exact zG om|exact zR rfl (by first|rfl|(rw[a0];done)|(simp[zK,zB];done)|(rw[a0];simp[zK,zB];done))|exact zC (by first|rfl|(rw[a0];done)|(rw[a0];rfl)|(rw[<-zV];rfl)|(rw[a0,<-zV];rfl))|apply And.intro)))) ?_
  intro i hi';have l1:=lA i hi';cbv;refine zH (λh=>?_) (λh=>?_)
  ·(have hlt:i<N:=by exact om);have f:=fa1 i
   clear fms' bsts lA lB lC lD fa1 fb1;generalize A i=X at *;cbv;refine xJ u7 rfl rfl rfl (by simp[zB,zK]) rfl ⟨by simp[zK,xC]⟩ (z3 (by simp[zK,zB] <;> omega) (by simp[zK,zB] at *;exact om)) rfl ?_;cbv;exact⟨zF om om,i+1,(by show i+1<=N;omega),(by show N-(i+1)<N-i;omega),wkY (by cbv;repeat' first|exact trivial|exact lR|exact zG om|exact zR rfl (by first|rfl|(rw[f];done)|(simp[zK,zB];done)|(rw[f];simp[zK,zB];done))|exact zC (by first|rfl|(rw[f];done)|(rw[f];rfl)|(rw[<-zV];rfl)|(rw[f,<-zV];rfl))|apply And.intro)⟩
  (have hN':i=N:=by exact om);subst hN'
  clear l1 lA hi' h;cbv;refine zZ (σ:=Nat) (λi=>⟨[(1,.ptr 1 0),(3,zW 3 4 ((B i).length)),(5,iV i)],[(1,.box [iV gn,alv us,alv os,rlv lo,rlv hi,alv rows,tsv ts,zM c1,nat c2,nat c3,dlv path,llv L]),(3,z5 4 (enc rwc (B i)))]⟩)
   (λi=>i<=rows.length) (λi=>rows.length-i) 0 (xK _) (wkY (by cbv;repeat' first|exact trivial|exact lR|exact zG om|exact zR rfl (by first|rfl|(rw[b0];done)|(simp[zK,zB];done)|(rw[b0];simp[zK,zB];done))|exact zC (by first|rfl|(rw[b0];done)|(rw[b0];rfl)|(rw[<-zV];rfl)|(rw[b0,<-zV];rfl))|apply And.intro)) ?_
  intro i hi';have l1:=lB i hi';cbv;refine zH (λh=>?_) (λh=>?_)
  ·(have hlt:i<rows.length:=by rw[zB] at h;exact om);have f:=fb1 i
   clear fms' bsts lB lC lD fa1 fb1;generalize B i=X at *;cbv;refine xJ u7 rfl rfl rfl (by simp[zB,zK]) rfl ⟨by simp[zK,xC]⟩ (z3 (by simp[zK,zB] <;> omega) (by simp[zK,zB] at *;exact om)) rfl ?_;cbv;exact⟨zF om om,i+1,(by show i+1<=rows.length;omega),(by show rows.length-(i+1)<rows.length-i;omega),wkY (by cbv;repeat' first|exact trivial|exact lR|exact zG om|exact zR rfl (by first|rfl|(rw[f];done)|(simp[zK,zB];done)|(rw[f];simp[zK,zB];done))|exact zC (by first|rfl|(rw[f];done)|(rw[f];rfl)|(rw[<-zV];rfl)|(rw[f,<-zV];rfl))|apply And.intro)⟩
  (have hN':i=rows.length:=by rw[zB] at h;exact om);rw[hN'] at l1 ⊢
  clear l1 lB hi' h hN';cbv;refine zZ (σ:=Nat) (λi=>⟨[(1,.ptr 1 0),(3,zW 3 4 ((C i).length)),(6,iV i)],[(1,.box [iV gn,alv us,alv os,rlv lo,rlv hi,alv rows,tsv ts,zM c1,nat c2,nat c3,dlv path,llv L]),(3,z5 4 (enc rwc (C i)))]⟩)
   (λi=>i<=path.length) (λi=>path.length-i) 0 (xK _) (wkY (by cbv;repeat' first|exact trivial|exact lR|exact zG om|exact zR rfl (by first|rfl|(rw[c0];done)|(simp[zK,zB];done)|(rw[c0];simp[zK,zB];done))|exact zC (by first|rfl|(rw[c0];done)|(rw[c0];rfl)|(rw[<-zV];rfl)|(rw[c0,<-zV];rfl))|apply And.intro)) ?_
  intro i hi';have l1:=lC i hi';cbv;refine zH (λh=>?_) (λh=>?_)
  ·(have hlt:i<path.length:=by rw[zB] at h;exact om);obtain⟨V,W,cF,f⟩:=fms' i
   clear fms' bsts lC lD fa1 fb1;generalize C i=X at *;cbv;refine cA cF ?_;cbv;refine zS (λe=>?_) (λe=>?_);{rw[if_pos e] at f;cbv;refine xJ u7 rfl rfl rfl (by simp[zB,zK]) rfl ⟨by simp[zK,xC]⟩ (z3 (by simp[zK,zB] <;> omega) (by simp[zK,zB] at *;exact om)) rfl ?_;cbv;exact⟨zF om om,i+1,(by show i+1<=path.length;omega),(by show path.length-(i+1)<path.length-i;omega),wkY (by cbv;repeat' first|exact trivial|exact lR|exact zG om|exact zR rfl (by first|rfl|(rw[f];done)|(simp[zK,zB];done)|(rw[f];simp[zK,zB];done))|exact zC (by first|rfl|(rw[f];done)|(rw[f];rfl)|(rw[<-zV];rfl)|(rw[f,<-zV];rfl))|apply And.intro)⟩};{rw[if_neg (by rw[e];decide),uT] at f;cbv;exact⟨zF om om,i+1,(by show i+1<=path.length;omega),(by show path.length-(i+1)<path.length-i;omega),wkY (by cbv;repeat' first|exact trivial|exact lR|exact zG om|exact zR rfl (by first|rfl|(rw[f];done)|(simp[zK,zB];done)|(rw[f];simp[zK,zB];done))|exact zC (by first|rfl|(rw[f];done)|(rw[f];rfl)|(rw[<-zV];rfl)|(rw[f,<-zV];rfl))|apply And.intro)⟩}
  (have hN':i=path.length:=by rw[zB] at h;exact om);rw[hN'] at l1 ⊢
  clear l1 lC hi' h hN' fms';cbv;refine zZ (σ:=Nat) (λj=>⟨[(1,.ptr 1 0),(3,zW 3 4 ((D j).length)),(10,iV j)],[(1,.box [iV gn,alv us,alv os,rlv lo,rlv hi,alv rows,tsv ts,zM c1,nat c2,nat c3,dlv path,llv L]),(3,z5 4 (enc rwc (D j)))]⟩)
   (λj=>j<=us.length) (λj=>us.length-j) 0 (xK _) (wkY (by cbv;repeat' first|exact trivial|exact lR|exact zG om|exact zR rfl (by first|rfl|(rw[d0];done)|(simp[zK,zB];done)|(rw[d0];simp[zK,zB];done))|exact zC (by first|rfl|(rw[d0];done)|(rw[d0];rfl)|(rw[<-zV];rfl)|(rw[d0,<-zV];rfl))|apply And.intro)) ?_
  intro j hj;have l1:=lD j hj;cbv;refine zH (λh=>?_) (λh=>?_)
  ·(have hlt:j<us.length:=by rw[zB] at h;exact om);obtain⟨b1,b2,on,off,d1,d2,ron,rof,cB,cP,cD1,cD2,z1,z2,f,o1,o2,o3,o4⟩:=bsts j
   (clear bsts lD fa1 fb1;have fin:∀ X',D j++X'=D (j+1)->(D (j+1)).length=(D j++X').length/\enc rwc (D (j+1))=enc rwc (D j++X'):=λX' h=>by rw[h];exact⟨rfl,rfl⟩);have hlen3:ron.length<=3:=by cases hd:d1 with
    |true=>rw[o1 hd];simp| false=>rw[o2 hd];simp
   have hlen4:rof.length<=3:=by cases hd:d2 with
    |true=>rw[o3 hd];simp| false=>rw[o4 hd];simp
   generalize hX:D j=X at *;cbv;refine cA cB ?_;cbv;refine cA cP ?_;cbv;refine bC (σ:=List Row) (λY=>⟨[(1,.ptr 1 0),(3,zW 3 4 ((Y).length)),(10,iV j),(11,iV b1),(12,iV b2),(13,zM on),(14,zM off)],[(1,.box [iV gn,alv us,alv os,rlv lo,rlv hi,alv rows,tsv ts,zM c1,nat c2,nat c3,dlv path,llv L]),(3,z5 4 (enc rwc (Y)))]⟩) (λY=>Y=X++(if on=true then ron else [])) (λe=>?_) (λe=>?_) (λY hY=>?_);{cbv;refine cA cD1 ?_;cbv;refine zS (λe'=>?_) (λe'=>?_);{cbv;refine xJ u7 rfl rfl rfl (by simp[zB,zK]) rfl ⟨by simp[zK,xC]⟩ (z3 (by simp[zK,zB] <;> omega) (by simp[zK,zB] at *;exact om)) rfl ?_;cbv;refine⟨X++[⟨6,j,0,0⟩,⟨7,j,0,0⟩,⟨8,j,0,0⟩],by rw[if_pos e,o1 e'],wkY (by cbv;repeat' first|exact trivial|exact lR|exact zG om|exact zR rfl (by first|rfl|(rw[e];done)|(simp[zK,zB];done)|(rw[e];simp[zK,zB];done))|exact zC (by first|rfl|(rw[e];done)|(rw[e];rfl)|(rw[<-zV];rfl)|(rw[e,<-zV];rfl))|apply And.intro)⟩};{cbv;refine xJ u7 rfl rfl rfl (by simp[zB,zK]) rfl ⟨by simp[zK,xC]⟩ (z3 (by simp[zK,zB] <;> omega) (by simp[zK,zB] at *;exact om)) rfl ?_;cbv;refine⟨X++[⟨6,j,0,0⟩,⟨7,j,(b1:Int),0⟩,⟨8,j,(b1:Int),0⟩],by rw[if_pos e,o2 e'],wkY (by cbv;repeat' first|exact trivial|exact lR|exact zG om|exact zR rfl (by first|rfl|(rw[e];done)|(simp[zK,zB];done)|(rw[e];simp[zK,zB];done))|exact zC (by first|rfl|(rw[e];done)|(rw[e];rfl)|(rw[<-zV];rfl)|(rw[e,<-zV];rfl))|apply And.intro)⟩}};{cbv;exact⟨X,by rw[if_neg (by rw[e];decide),uT],wkY (by cbv;repeat' first|exact trivial|exact lR|exact zG om|exact zR rfl (by first|rfl|(rw[e];done)|(simp[zK,zB];done)|(rw[e];simp[zK,zB];done))|exact zC (by first|rfl|(rw[e];done)|(rw[e];rfl)|(rw[<-zV];rfl)|(rw[e,<-zV];rfl))|apply And.intro)⟩}
   (have ly:Y.length<=100000003:=by rw[hY,vE];split <;> (try simp only[dZ]) <;> omega);cbv
   refine bC (σ:=List Row) (λY'=>⟨[(1,.ptr 1 0),(3,zW 3 4 ((Y').length)),(10,iV j),(11,iV b1),(12,iV b2),(13,zM on),(14,zM off)],[(1,.box [iV gn,alv us,alv os,rlv lo,rlv hi,alv rows,tsv ts,zM c1,nat c2,nat c3,dlv path,llv L]),(3,z5 4 (enc rwc (Y')))]⟩) (λY'=>Y'=Y++(if off=true then rof else [])) (λe=>?_) (λe=>?_) (λY' hY'=>?_);{cbv;refine cA cD2 ?_;cbv;refine zS (λe'=>?_) (λe'=>?_);{cbv;refine xJ u7 rfl rfl rfl (by simp[zB,zK]) rfl ⟨by simp[zK,xC]⟩ (z3 (by simp[zK,zB] <;> omega) (by simp[zK,zB] at *;exact om)) rfl ?_;cbv;refine⟨Y++[⟨5,j,0,0⟩,⟨9,j,0,0⟩,⟨10,j,0,0⟩],by rw[if_pos e,o3 e'],wkY (by cbv;repeat' first|exact trivial|exact lR|exact zG om|exact zR rfl (by first|rfl|(rw[e];done)|(simp[zK,zB];done)|(rw[e];simp[zK,zB];done))|exact zC (by first|rfl|(rw[e];done)|(rw[e];rfl)|(rw[<-zV];rfl)|(rw[e,<-zV];rfl))|apply And.intro)⟩};{cbv;refine xJ u7 rfl rfl rfl (by simp[zB,zK]) rfl ⟨by simp[zK,xC]⟩ (z3 (by simp[zK,zB] <;> omega) (by simp[zK,zB] at *;exact om)) rfl ?_;cbv;refine⟨Y++[⟨5,j,0,0⟩,⟨9,j,0,(b2:Int)⟩,⟨10,j,0,(b2:Int)⟩],by rw[if_pos e,o4 e'],wkY (by cbv;repeat' first|exact trivial|exact lR|exact zG om|exact zR rfl (by first|rfl|(rw[e];done)|(simp[zK,zB];done)|(rw[e];simp[zK,zB];done))|exact zC (by first|rfl|(rw[e];done)|(rw[e];rfl)|(rw[<-zV];rfl)|(rw[e,<-zV];rfl))|apply And.intro)⟩}};{cbv;exact⟨Y,by rw[if_neg (by rw[e];decide),uT],wkY (by cbv;repeat' first|exact trivial|exact lR|exact zG om|exact zR rfl (by first|rfl|(rw[e];done)|(simp[zK,zB];done)|(rw[e];simp[zK,zB];done))|exact zC (by first|rfl|(rw[e];done)|(rw[e];rfl)|(rw[<-zV];rfl)|(rw[e,<-zV];rfl))|apply And.intro)⟩}
   (have ly':Y'.length<=100000006:=by rw[hY',vE];split <;> (try simp only[dZ]) <;> omega);have f':D (j+1)=Y'++(if on=true\/off=true then [] else [⟨5,j,0,0⟩,⟨6,j,0,0⟩]++(if 0<b1 then [⟨11,j,(b1:Int),0⟩] else [])++(if 0<b2 then [⟨12,j,0,(b2:Int)⟩] else [])++(if 0<b1/\0<b2 then [⟨13,j,(b1:Int),(b2:Int)⟩] else [])):=by rw[f,hY',hY];simp only[YM]
   clear f hY hY' o1 o2 o3 o4 cB cP cD1 cD2 fin hX l1 ly hlen3 hlen4;cbv;refine yH (λe1=>?_) (λe1=>?_);{rw[if_pos (.inl e1),uT] at f';cbv;exact⟨zF om om,j+1,(by show j+1<=us.length;omega),(by show us.length-(j+1)<us.length-j;omega),wkY (by cbv;repeat' first|exact trivial|exact lR|exact zG om|exact zR rfl (by first|rfl|(rw[f'];done)|(simp[zK,zB];done)|(rw[f'];simp[zK,zB];done))|exact zC (by first|rfl|(rw[f'];done)|(rw[f'];rfl)|(rw[<-zV];rfl)|(rw[f',<-zV];rfl))|apply And.intro)⟩};cbv;refine zS (λe2=>?_) (λe2=>?_);{rw[if_pos (.inr e2),uT] at f';cbv;exact⟨zF om om,j+1,(by show j+1<=us.length;omega),(by show us.length-(j+1)<us.length-j;omega),wkY (by cbv;repeat' first|exact trivial|exact lR|exact zG om|exact zR rfl (by first|rfl|(rw[f'];done)|(simp[zK,zB];done)|(rw[f'];simp[zK,zB];done))|exact zC (by first|rfl|(rw[f'];done)|(rw[f'];rfl)|(rw[<-zV];rfl)|(rw[f',<-zV];rfl))|apply And.intro)⟩};rw[if_neg (by rw[e1,e2];decide)] at f';cbv;refine xJ u7 rfl rfl rfl (by simp[zB,zK]) rfl ⟨by simp[zK,xC]⟩ (z3 (by simp[zK,zB] <;> omega) (by simp[zK,zB] at *;exact om)) rfl ?_;cbv;refine zH (λe3=>?_) (λe3=>?_)
   ·(have p1:0<b1:=by exact om);rw[if_pos p1] at f'
    cbv;refine xJ u7 rfl rfl rfl (by simp[zB,zK]) rfl ⟨by simp[zK,xC]⟩ (z3 (by simp[zK,zB] <;> omega) (by simp[zK,zB] at *;exact om)) rfl ?_;cbv;refine zH (λe4=>?_) (λe4=>?_)
    ·(have p2:0<b2:=by exact om);rw[if_pos p2] at f'
     rw[if_pos ⟨p1,p2⟩] at f';cbv;refine xJ u7 rfl rfl rfl (by simp[zB,zK]) rfl ⟨by simp[zK,xC]⟩ (z3 (by simp[zK,zB] <;> omega) (by simp[zK,zB] at *;exact om)) rfl ?_;cbv;refine wO om ?_;cbv;refine xF om ?_;cbv;refine xJ u7 rfl rfl rfl (by simp[zB,zK]) rfl ⟨by simp[zK,xC]⟩ (z3 (by simp[zK,zB] <;> omega) (by simp[zK,zB] at *;exact om)) rfl ?_;cbv;exact⟨zF om om,j+1,(by show j+1<=us.length;omega),(by show us.length-(j+1)<us.length-j;omega),wkY (by cbv;repeat' first|exact trivial|exact lR|exact zG om|exact zR rfl (by rw[f'];simp[zK,zB])|exact zC (by rw[f'];simp only[<-zV,YM];rfl)|apply And.intro)⟩
    ·(have p2:¬0<b2:=by exact om);rw[if_neg p2] at f'
     rw[if_neg (λg=>p2 g.2)] at f';cbv;refine wO om ?_;cbv;refine yE om ?_;cbv;exact⟨zF om om,j+1,(by show j+1<=us.length;omega),(by show us.length-(j+1)<us.length-j;omega),wkY (by cbv;repeat' first|exact trivial|exact lR|exact zG om|exact zR rfl (by rw[f'];simp[zK,zB])|exact zC (by rw[f'];simp only[<-zV,YM];rfl)|apply And.intro)⟩
   ·(have p1:¬0<b1:=by exact om);rw[if_neg p1] at f'
    cbv;refine zH (λe4=>?_) (λe4=>?_)
    ·(have p2:0<b2:=by exact om);rw[if_pos p2] at f'
     rw[if_neg (λg=>p1 g.1)] at f';cbv;refine xJ u7 rfl rfl rfl (by simp[zB,zK]) rfl ⟨by simp[zK,xC]⟩ (z3 (by simp[zK,zB] <;> omega) (by simp[zK,zB] at *;exact om)) rfl ?_;cbv;refine yG om ?_;cbv;exact⟨zF om om,j+1,(by show j+1<=us.length;omega),(by show us.length-(j+1)<us.length-j;omega),wkY (by cbv;repeat' first|exact trivial|exact lR|exact zG om|exact zR rfl (by rw[f'];simp[zK,zB])|exact zC (by rw[f'];simp only[<-zV,YM];rfl)|apply And.intro)⟩
    ·(have p2:¬0<b2:=by exact om);rw[if_neg p2] at f'
     rw[if_neg (λg=>p1 g.1)] at f';cbv;refine yG om ?_;cbv;exact⟨zF om om,j+1,(by show j+1<=us.length;omega),(by show us.length-(j+1)<us.length-j;omega),wkY (by cbv;repeat' first|exact trivial|exact lR|exact zG om|exact zR rfl (by rw[f'];simp[zK,zB])|exact zC (by rw[f'];simp only[<-zV,YM];rfl)|apply And.intro)⟩
  (have hN':j=us.length:=by rw[zB] at h;exact om);rw[hN'] at l1 ⊢
  (clear l1 lD hj h hN' bsts;generalize D us.length=X at *;have hT:((enc rwc X).drop 0).take X.length=enc rwc X:=by rw[v5,<-zB rwc X,v6]);have hfr:0+X.length<=(enc rwc X).length:=by rw[zB];omega
  cbv;refine dG _ (.trans (.le (ps':=⟨[(2,zW 3 4 X.length)],[(3,z5 4 (enc rwc X))]⟩) ?_ ?_ rfl) (.frz 3 rfl rfl ?_ ?_)) rfl ?_;{cbv;exact okA};{cbv;exact⟨zC rfl,trivial⟩}
  ·cbv
   repeat' first|exact trivial|exact⟨hfr⟩|apply And.intro
  ·cbv
   repeat' first|exact trivial|apply And.intro
  cbv;exact zT hT

end Go.Proofs.YtboocdbmnfjomaaGreat
