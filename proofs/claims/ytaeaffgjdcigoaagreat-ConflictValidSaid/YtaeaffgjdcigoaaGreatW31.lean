/- A part of the proof: SpV, UtB, RuJ, AlA, AlB, AlC, SpX, EvA, BrC, EvB, EvC, EvD, EvE, KpS, KpF, KcO, KpA. -/
import Derived.Test.YtaeaffgjdcigoaaGreatW27
import Derived.Test.YtaeaffgjdcigoaaGreatW30
import Derived.Test.YtaeaffgjdcigoaaGreatW22
import Derived.Test.YtaeaffgjdcigoaaGreatW29
import Derived.Test.YtaeaffgjdcigoaaGreatW28
import Derived.Test.YtaeaffgjdcigoaaGreatW26
import Derived.Test.YtaeaffgjdcigoaaGreatW23
import Derived.Maps.Own
import Derived.Lib.SlKeysI
import Derived.Maps.Range
import Derived.Test.YtaeaffgjdcigoaaGreatW42
set_option linter.all false
namespace Go.Proofs.YtaeaffgjdcigoaaGreat
open Go
set_option maxRecDepth 100000
set_option maxHeartbeats 4000000
theorem Wt.take {s:Scp}:∀ {l:List (Row×Rat)} {N:Nat},Wt s l N->∀ i,∃ M,M<=N/\Wt s (l.take i) M
 |_,_,.nil,i=>⟨0,yD _,by rw[List.take_nil];exact .nil⟩| _,_,.cons hk hg h,0=>⟨0,xA _,by rw[List.take_zero];exact .nil⟩| _,_,.cons (k:=k) (g:=g) (N:=N) hk hg h,i+1=>by obtain⟨M,h1,h2⟩:=h.take i;exact⟨k+g+5+M,by omega,by rw[List.take_succ_cons];exact .cons hk hg h2⟩
theorem Wt.fmem {s:Scp}:∀ {l:List (Row×Rat)} {N:Nat},Wt s l N->∀ t,t∈l->∀ f,s.fm t.1=some f->f.fl N 3000
 |_,_,.nil,t,ht=>absurd ht (by simp)| _,_,.cons hk hg h,t,ht=>by rcases yG.1 ht with rfl|ht;{exact λf hf=>(hg f hf).mono oM (yD _)};{exact λf hf=>(h.fmem t ht f hf).mono oM (yD _)}
theorem Wt.sumOk {s:Scp}{l:List (Row×Rat)}{N:Nat}(h:Wt s l N)(hN:N<2^26)(hf:∀ t,t∈l->∀ f,s.fm t.1=some f->f.fl (2^24) 3000)(hc:∀ t,t∈l->Fits (2^20) t.2)(hl:l.length<=100000):SumOk s (mR l) where
 fm m hm f hf':=by obtain⟨t,ht,rfl⟩:=yZ.1 hm;exact (hf t ht f hf').mono (yD _) (by decide)
 c:=⟨by rw[jN];omega,λm hm=>by obtain⟨t,ht,rfl⟩:=yZ.1 hm;exact (zU (hc t ht)).mono (by decide)⟩
 pre i acc ha:=by
  (obtain⟨M,h1,h2⟩:=h.take i;rw[S6] at ha;have:=h2.sumL zero_fl ha;have hl2:(l.take i).length<=l.length:=by rw[kX];omega);exact this.mono oM oM
theorem Wt.sumOk' {s:Scp}{l:List (Row×Rat)}{N:Nat}(h:Wt s l N)(hN:N<=2^20)(hl:l.length<=100000):SumOk s (mR l) :=
 h.sumOk (xP hN (by decide)) (λt ht f hf=>(h.fmem t ht f hf).mono (vL hN (by decide)) (yD _)) (λt ht=>(h.mem t ht).mono hN) hl
def JL {s:Scp}{x:FQry}(hq:s.q=x.q)(hx:x.small)(hL:LB KK s.lems){f:F}{j:Nat}(hj:j<=3)(hf:f.fl 46 7)(hw:f.wf ((x.g.n+j:Nat):Int)):AbvOk s f:=by
 have ok:=Pq hx.g.n1 hx.g.n2 hj;have kl:=AD j;have hn:=hx.g.n2;have hv:∀ t,t∈f.ts->((0:Nat):Int)<=t.1/\t.1<((x.g.n+j:Nat):Int):=λt ht=>by have:=hw.v t ht;omega
 have key:∀ i l,s.aboveL (f.ts.take i) []=some l->∃ M,M<=2^20/\Wt s l M/\l.length<=14:=λi l h=>by
  (obtain⟨M,h1,h2⟩:=Yh hq hx HY hL (hi:=x.g.n+j) (lo:=0) (hw.cn.take i) (λt ht=>hv t (aE ht)) (λt ht=>hf.t t (aE ht)) (xA _) .nil h;have h3:=eP h;have h4:=hf.len;have h5:(f.ts.take i).length<=f.ts.length:=by rw[kX];omega);have h6:pI KK x.g.n 0=0:=rfl
  (simp only[dO] at h3;refine⟨M,?_,h2,by omega⟩;have:(679650:Nat)<=2^20:=by decide);omega
 refine⟨hw.cn,hf.mono (by decide) (by decide),λt ht=>?_,λi l h=>?_,λt ht more h=>?_,λl h=>?_⟩;{have:=hv t ht;omega};{obtain⟨M,h1,h2,h3⟩:=key i l h;exact⟨λt ht=>(h2.mem t ht).mono (vL h1 (by decide)),by omega⟩}
 ·(obtain⟨v,hv1⟩:∃ v:Nat,t.1=v:=⟨t.1.toNat,by have:=hv t ht;omega⟩;rw[hv1] at h;obtain⟨B,h1,h2⟩:=GH hq hx HY hL v h;have h3:=KE h;refine⟨λu hu=>(h2.mem u hu).mono ?_,by omega⟩;have hlt:v+1<=x.g.n+j:=by have:=hv t ht;omega);have h4:=Z6 (K:=KK) (n:=x.g.n) hlt
  (have h5:pI KK x.g.n (v+1)=pI KK x.g.n v+cst KK x.g.n v:=rfl;have:(679650:Nat)<=2^20:=by decide);omega
 {have hfull:f.ts.take f.ts.length=f.ts:=v9;obtain⟨M,h1,h2,h3⟩:=key f.ts.length l (by rw[hfull];exact h);exact h2.sumOk' h1 oM}
def QQ {t:TypeId}{base x:Operand}{d:Option Nat}{ps ps':PS}{K:PS->Prop}(hw:Wk ps ps')(h:AppK t base x d ps' K):AppK t base x d ps K:=by rcases h.h with h|h;{obtain⟨p,a1,a2,a3,a4,a5,a6,a7,a8⟩:=h.h;exact⟨.inl ⟨p,a1,a2,a3,a4,a5,a6,.trans hw a7,a8⟩⟩};{exact h.h.elim}
def Zk {α:Type}(p:α->List PV)(l:List α):((enc p l).drop 0).take l.length=enc p l:=by rw[wZ,<-zA p l,v9]
def gF:ty 40=.sli 6 96 [iV 0,.ff,.ff,.nil,.nil,.nil]:=by cbv
def xN (b:Bool) (j:Int) (up:Bool) (v:R) (l:List Mult):List Lem:=if b=true then [⟨j,up,v,l⟩] else []
def Fg (j:Int)(x y:Option (Rat×List (Row×Rat))):Vs j x y=xN x.isSome j false (zI ((x.map Prod.fst).getD 0)) (mR ((x.map Prod.snd).getD []))++xN y.isSome j true (zI (-(zI ((y.map Prod.fst).getD 0)).q)) (mR ((y.map Prod.snd).getD [])):=by unfold Vs xN;grind [z6]
def jB (L:List Lem)(m:Lem):enc lc (L++[m])=enc lc L++zW [lc m]:=by simp[enc,zW]
def T5 {q:Qry}{P:List Dec}(h:(⟨q,P,[]⟩:Scp).sz (2^20)){L:List Lem}{j:Nat}(hj:j<=4)(hL:Lok L j):(⟨q,P,L⟩:Scp).sz (2^20):=by refine⟨h.q,h.path,⟨by have:=hL.len;grind,λm hm=>?_,λm hm=>(hL.pf m hm).1.mono (by decide)⟩⟩;obtain⟨q,hq⟩:=hL.v m hm;obtain⟨i,_,hf⟩:=hL.lb m hm;rw[hq,z6] at hf;rw[hq];exact zU (hf.mono (vL (AD i) (by decide)))
structure BndF (q:Qry) (P:List Dec) (j:Nat) (L:List Lem) (p p2:A) (xv yv zv:R) (xl yl:List Mult) (xb yb:Bool):Prop where
 c1:zC 202 [sv ⟨q,P,L⟩,av p] (.tup [rv xv,mlv xl,zL xb])
 c2:zC 100 [av p,rv (zI ((-1:Int):Rat))] (av p2)
 c3:zC 202 [sv ⟨q,P,L⟩,av p2] (.tup [rv yv,mlv yl,zL yb])
 c4:yb=true->zC 101 [rv yv] (rv zv)
 lok:Lok (L++(xN xb j false xv xl++xN yb j true zv yl)) (j+1)
 g:∀ r,QN q P (p::r) j L=QN q P r (j+1) (L++(xN xb j false xv xl++xN yb j true zv yl))
def Di {x:FQry}(hx:x.small)(hwf:∀ (i:Nat) (f:F),x.g.us[i]?=some f->f.wf ((x.g.n+i:Nat):Int)){P:List Dec}(hP:(⟨x.q,P,[]⟩:Scp).sz (2^20)){j:Nat}{p:A}(hp:x.q.g.us[j]?=some p){L:List Lem}(hL:Lok L j):∃ p2 xv yv zv xl yl xb yb,BndF x.q P j L p p2 xv yv zv xl yl xb yb:=by
 have hp':(x.g.us.map fA)[j]?=some p:=hp;rw[dH] at hp';cases hb:x.g.us[j]? with
 |none=>grind| some b =>
  (rw[hb] at hp';have hpb:p=fA b:=by grind);have hlt:=(wE.1 hb).1
  (have hj:j<=3:=by have:=hx.g.us;omega);have hf:=hx.g.uf b (z3 hb)
  (have hw:=hwf j b hb;have hs:=T5 hP (by omega:j<=4) hL;have n0:0<=x.q.g.n:=by show (0:Int)<=(x.g.n:Int);omega);have n1:x.q.g.n<=256:=by have:=hx.g.n2;show (x.g.n:Int)<=256;omega
  have a1:=Gm ⟨x.q,P,L⟩ b hs n0 n1 (JL rfl hx hL.lb hj (hf.mono (by decide) (by decide)) hw);have a3:=Gm ⟨x.q,P,L⟩ (b.scale (-1)) hs n0 n1 (JL rfl hx hL.lb hj ((hf.scale wK).mono (by decide) (by decide)) hw.scale);have a2:=fQ (q:=-1) hf wK (by decide) (by decide) (by decide);obtain⟨l1,l2⟩:=Ah hx hwf (path:=P) hb hL;rw[Fg] at l1;refine⟨fA (b.scale (-1)),_,_,_,_,_,_,_,⟨by simp_all,by simp_all,a3,λh=>?_,l1,λr=>?_⟩⟩
  ·refine Cc _ ?_;cases hy:(⟨x.q,P,L⟩:Scp).above (b.scale (-1)) with
   |none=>grind| some v=>exact (zU (l2 v hy)).mono (by decide)
  {rw[hpb];show QN x.q P r (j+1) (L++Vs j ((⟨x.q,P,L⟩:Scp).above (fA b).f) ((⟨x.q,P,L⟩:Scp).above ((fA b).f.scale (-1))))=_;rw[qG,Fg]}
def So (raw : List UInt8) : zC 168 [svN (fdS raw)] (sv (fdS raw).bounded) := by
  refine sF Tryz.f168 ?_
  have sm := dY raw 0
  have hwf := BF raw 0
  have hz : (fdS raw).sz (2^20) := by
    have g := Ml raw
    exact ⟨g.q.mono (by decide), ⟨g.path.len, fun d hd => (g.path.sz d hd).mono (by decide)⟩, ⟨by show 0 < 2^38; decide, fun m hm => absurd hm (by simp [fdS]), fun m hm => absurd hm (by simp [fdS])⟩⟩
  have hbg : (fdS raw).bounded = ⟨(fdY raw 0).1.q, (fdS raw).path, QN (fdY raw 0).1.q (fdS raw).path (fdY raw 0).1.q.g.us 0 []⟩ := rfl
  have hsd : fdS raw = ⟨(fdY raw 0).1.q, (fdS raw).path, []⟩ := rfl
  rw [hbg]
  generalize (fdS raw).path = path at *
  rw [hsd] at hz ⊢
  have hF := fun j p L hp hL => Di (j := j) (p := p) (L := L) sm hwf hz hp hL
  clear hbg hsd hwf hz
  have hul : (fdY raw 0).1.q.g.us.length ≤ 4 := by show (List.map fA _).length ≤ 4; rw [y4]; exact sm.g.us
  clear sm
  generalize (fdY raw 0).1.q = Q at *
  have cof := s32 (-1) (by decide) (by decide)
  obtain ⟨M1, hM1⟩ := ex (zI ((-1 : Int) : Rat))
  have hF' : ∀ (j : Nat) (p : A) (L : List Lem), Q.g.us[j]? = some p → Lok L j → ∃ p2 xv yv zv xl yl xb yb, BndF Q path j L p p2 xv yv zv xl yl xb yb := hF
  clear hF
  obtain ⟨⟨n, us, os⟩, ⟨lo, hi', rows⟩, ⟨ts, c⟩⟩ := Q
  dsimp only at hF' hul
  rw [hM1] at cof
  obtain ⟨G, hG⟩ := ex (QN ⟨⟨n, us, os⟩, ⟨lo, hi', rows⟩, ⟨ts, c⟩⟩ path)
  rw [hG]
  have hGn : ∀ j L, G [] j L = L := fun j L => by rw [← hG]; rfl
  obtain ⟨L9, hL9⟩ := ex (G us 0 [])
  rw [hL9]
  cbv
  refine qV 10 (by cbv) (by cbv) ?_
  cbv
  refine z7 (σ := Nat × List Lem) (fun s => ⟨[(1, .ptr 1 0), (2, .ptr 2 0), (3, .ptr 3 0), (4, iV s.1)],
      [(1, .box [iV n, alv us, alv os, rlv lo, rlv hi', alv rows, tsv ts, zL c.neg, nat c.num, nat c.den, dlv path, .nil]), (2, .box [iV 0, .nil, .nil, .nil, .nil, .nil, .nil, .ff, .nil, .nil, .nil, .nil]), (3, .box [iV n, alv us, alv os, rlv lo, rlv hi', alv rows, tsv ts, zL c.neg, nat c.num, nat c.den, dlv path, yX 61 6 s.2.length]), (61, .lent 6 (fun _ => enc lc s.2))]⟩)
    (fun s => s.1 ≤ us.length ∧ G (us.drop s.1) s.1 s.2 = L9 ∧ Lok s.2 s.1) (fun s => us.length - s.1)
    (0, []) ⟨xA _, hL9, ⟨fun m hm => absurd hm (by simp), by simp, fun m hm => absurd hm (by simp), fun m hm => absurd hm (by simp)⟩⟩
    (.trans (wkZ (ps' := ⟨[(1, .ptr 1 0), (2, .ptr 2 0), (3, .ptr 3 0), (4, iV (((0 : Nat) : Int)))], [(1, .box [iV n, alv us, alv os, rlv lo, rlv hi', alv rows, tsv ts, zL c.neg, nat c.num, nat c.den, dlv path, .nil]), (2, .box [iV 0, .nil, .nil, .nil, .nil, .nil, .nil, .ff, .nil, .nil, .nil, .nil]), (3, .box [iV n, alv us, alv os, rlv lo, rlv hi', alv rows, tsv ts, zL c.neg, nat c.num, nat c.den, dlv path, .emp])]⟩))
    (.trans (.adoptB (ps := ⟨[(1, .ptr 1 0), (2, .ptr 2 0), (3, .ptr 3 0), (4, iV (((0 : Nat) : Int)))], [(1, .box [iV n, alv us, alv os, rlv lo, rlv hi', alv rows, tsv ts, zL c.neg, nat c.num, nat c.den, dlv path, .nil]), (2, .box [iV 0, .nil, .nil, .nil, .nil, .nil, .nil, .ff, .nil, .nil, .nil, .nil]), (3, .box [iV n, alv us, alv os, rlv lo, rlv hi', alv rows, tsv ts, zL c.neg, nat c.num, nat c.den, dlv path, .emp])]⟩) (cs := [iV n, alv us, alv os, rlv lo, rlv hi', alv rows, tsv ts, zL c.neg, nat c.num, nat c.den, dlv path, .emp]) 61 6 3 11 rfl rfl rfl)
    (.trans (.pub 61 rfl rfl) (.le okZ ?_ rfl)))) ?_
  · cbv
    exact ⟨okA, okA, okA, zG rfl, trivial⟩
  intro s hs
  obtain ⟨j, L⟩ := s
  obtain ⟨h1, h2, h3⟩ := hs
  dsimp only at h1 h2 h3
  clear hL9
  cbv
  refine zF (fun h => ?_) (fun h => ?_)
  · rw [zA] at h
    have hlt : j < us.length := by exact om
    obtain ⟨p, hp⟩ := zS hlt
    obtain ⟨p2, xv, yv, zv, xl, yl, xb, yb, F⟩ := hF' j p L hp h3
    have g2 := F.g (us.drop (j + 1))
    rw [hG, ← zY hp, h2] at g2
    have c1 := F.c1
    have c2 := F.c2
    have c3 := F.c3
    have c4 := F.c4
    have lk := F.lok
    have lkL : L.length ≤ 8 := by have := h3.len; omega
    clear F hF' hG h2 h3 hGn
    rw [hM1] at c2
    have hT : ((enc lc L).drop 0).take L.length = enc lc L := by rw [wZ, ← zA lc L, v9]
    have hfr : 0 + L.length ≤ (enc lc L).length := by grind [zA]
    have hLn := lkL
    cbv
    refine yL hp j7 cJ ?_
    cbv
    refine pG 61 rfl (by cbv; repeat' first | exact trivial | exact ⟨hfr⟩ | apply And.intro) ?_
    cbv
    refine yJ rfl (by exact ⟨⟨lR, lR, lR, lR, lR, lR, lR, lR, lR, lR, lR, zR hT, trivial⟩, okA, trivial⟩) c1 rfl ?_
    cbv
    refine vP 12 [(10, 9)] (by cbv) (by cbv) (by cbv) ?_
    cbv
    refine pG 61 rfl (by cbv; repeat' first | exact trivial | exact ⟨hfr⟩ | apply And.intro) ?_
    cbv
    refine dA cof ?_
    cbv
    refine dA c2 ?_
    cbv
    refine xW (by exact ⟨⟨lR, lR, lR, lR, lR, lR, lR, lR, lR, lR, lR, zR hT, trivial⟩, okA, trivial⟩) c3 rfl ?_
    cbv
    refine lJ (σ := List Lem) (fun Lx => ⟨[(1, .ptr 1 0), (2, .ptr 2 0), (3, .ptr 3 0), (4, iV j), (9, .ptr 9 0), (10, mlv yl), (11, zL yb)],
        [(1, .box [iV n, alv us, alv os, rlv lo, rlv hi', alv rows, tsv ts, zL c.neg, nat c.num, nat c.den, dlv path, .nil]), (2, .box [iV 0, .nil, .nil, .nil, .nil, .nil, .nil, .ff, .nil, .nil, .nil, .nil]), (3, .box [iV n, alv us, alv os, rlv lo, rlv hi', alv rows, tsv ts, zL c.neg, nat c.num, nat c.den, dlv path, yX 61 6 Lx.length]), (61, .log 6 (fun _ => enc lc Lx)), (9, .box [zL yv.neg, nat yv.num, nat yv.den])]⟩)
      (fun Lx => Lx = L ++ xN xb j false xv xl) (fun e => ?_) (fun e => ?_) (fun Lx hLx => ?_)
    · cbv
      refine GU ?_
      cbv
      refine QQ (.lend 61 4 rfl rfl trivial) ?_
      cbv
      refine nH gF rfl rfl rfl (by grind) rfl ⟨by simp [zW, xT]⟩ (z8 oM (by simp [zW, zA]; exact om)) rfl ?_
      cbv
      refine ⟨L ++ [⟨j, false, xv, xl⟩], by unfold xN; grind, .le okZ ?_ rfl⟩
      cbv
      refine ⟨okA, okA, ⟨lR, lR, lR, lR, lR, lR, lR, lR, lR, lR, lR, zT rfl (by simp [zW, zA]), trivial⟩, zG ?_, okA, trivial⟩
      rw [jB]
      rfl
    · cbv
      refine ⟨L, by unfold xN; grind, .le okZ ?_ rfl⟩
      cbv
      exact ⟨okA, okA, okA, zG rfl, okA, trivial⟩
    · have hxl : Lx.length ≤ 9 := by rw [hLx, gD]; have : (xN xb j false xv xl).length ≤ 1 := by unfold xN; grind
                                     omega
      have g3 : L ++ (xN xb j false xv xl ++ xN yb j true zv yl) = Lx ++ xN yb j true zv yl := by grind
      rw [g3] at g2 lk
      clear g3 hLx c1 c2 c3 cof hT hfr
      cbv
      refine zO (fun e => ?_) (fun e => ?_)
      · have g3 : xN yb j true zv yl = [⟨j, true, zv, yl⟩] := by unfold xN; grind
        rw [g3] at g2 lk
        have c4' := c4 e
        clear c4 g3
        cbv
        refine zM 8 (by cbv) ?_
        cbv
        refine dA c4' ?_
        cbv
        refine nH gF rfl rfl rfl (by simp [zA]) rfl ⟨by simp [zW, xT]⟩ (z8 oM (by simp [zW, zA]; exact om)) rfl ?_
        cbv
        refine ⟨zD om om, (j + 1, Lx ++ [⟨j, true, zv, yl⟩]), ⟨om, g2.symm, lk⟩, om, .trans (.pub 61 rfl rfl) (.le okZ ?_ rfl)⟩
        cbv
        refine ⟨okA, okA, ⟨lR, lR, lR, lR, lR, lR, lR, lR, lR, lR, lR, zT rfl (by simp [zW, zA]), trivial⟩, zG ?_, trivial⟩
        rw [jB]
        rfl
      · have g3 : xN yb j true zv yl = [] := by unfold xN; grind
        rw [g3, jV] at g2 lk
        clear c4 g3
        cbv
        refine ⟨zD om om, (j + 1, Lx), ⟨om, g2.symm, lk⟩, om, .trans (.pub 61 rfl rfl) (.le okZ ?_ rfl)⟩
        cbv
        exact ⟨okA, okA, okA, zG rfl, trivial⟩
  · have hj : j = us.length := by rw [zA] at h; exact om
    rw [hj, vE, hGn] at h2
    subst h2
    have hT : ((enc lc L).drop 0).take L.length = enc lc L := by rw [wZ, ← zA lc L, v9]
    have hfr : 0 + L.length ≤ (enc lc L).length := by grind [zA]
    clear hF' hG hGn h3
    cbv
    refine pG 61 rfl (by cbv; repeat' first | exact trivial | exact ⟨hfr⟩ | apply And.intro) ?_
    cbv
    (refine rC ?_; cbv)
    exact ⟨lR, lR, lR, lR, lR, lR, lR, lR, lR, lR, lR, zR hT, trivial⟩
def Tj (s:Scp)(j:Int)(hs:s.sz (2^20)):zC 110 [sv s,iV j] (.tup [zL (s.onU j),zL (s.offU j)]):=by
 refine sF Tryz.f110 ?_;have cb:=bB s j hs.lems;have cd1:=oF s 1 j (hs.path.mono (by decide));have cd2:=oF s 2 j (hs.path.mono (by decide));have csg:∀ m,m∈s.lems->zC 30 [rv m.v] (iV (yA m.v.q)):=λm hm=>s35 m.v (by have:=(hs.lems.sz m hm).n;omega);have hlen:=hs.lems.len;have hbb:∀ k:Nat,(k=(s.best j).1\/k=(s.best j).2)->k≠0->∃ m,s.lems[k-1]?=some m/\k-1<s.lems.length:=λk hk h0=>by obtain⟨m,hm,_⟩:=cE hk h0;exact⟨m,hm,(wE.1 hm).1⟩
 have hb1:=hbb _ (.inl rfl);have hb2:=hbb _ (.inr rfl);clear hbb;have hv:∀ (k:Nat) m,s.lems[k-1]?=some m->qW s.lems k=m.v.q:=λk m h=>by unfold qW;rw[h];rfl
 have hon:s.onU j=(s.dcd 1 j || (decide (0<(s.best j).1)&&decide (0<=yA (qW s.lems (s.best j).1)))):=rfl;have hoff:s.offU j=(s.dcd 2 j || (decide (0<(s.best j).2)&&decide (yA (qW s.lems (s.best j).2)<=0))):=rfl;generalize s.onU j=on at *;generalize s.offU j=off at *;generalize s.dcd 1 j=d1 at *;generalize s.dcd 2 j=d2 at *;generalize (s.best j).1=b1 at *;generalize (s.best j).2=b2 at *;have o11:d1=true->on=true:=λh=>by rw[hon,h];rfl
 have o12:d1=false->b1=0->on=false:=λh g=>by rw[hon,h,g];rfl
 have o13:d1=false->∀ m,s.lems[b1-1]?=some m->0<b1->on=decide (0<=yA m.v.q):=λh m hm g=>by rw[hon,h,hv b1 m hm,decide_eq_true g];rfl
 have o21:d2=true->off=true:=λh=>by rw[hoff,h];rfl
 have o22:d2=false->b2=0->off=false:=λh g=>by rw[hoff,h,g];rfl
 have o23:d2=false->∀ m,s.lems[b2-1]?=some m->0<b2->off=decide (yA m.v.q<=0):=λh m hm g=>by rw[hoff,h,hv b2 m hm,decide_eq_true g];rfl
 clear hon hoff hv hs;obtain⟨⟨⟨gn,us,os⟩,⟨lo,hi,rows⟩,⟨ts,c1,c2,c3⟩⟩,path,L⟩:=s;dsimp only at csg hlen hb1 hb2 o13 o23;cbv;refine cA cb ?_;cbv;refine cA cd1 ?_;cbv;refine yB (λeA=>?_) (λeA=>?_)
 ·have qA:=o11 eA;cbv;refine cA cd2 ?_;cbv;refine yB (λeB=>?_) (λeB=>?_)
  ·have qB:=o21 eB;cbv
   (refine rC ?_;cbv)
   exact⟨yV qA,yV qB,trivial⟩
  ·cbv;refine zQ (λfB=>?_) (λfB=>?_)
   ·(have gB:b2≠0:=by exact om);obtain⟨mB,hmB,hlB⟩:=hb2 gB
    have qB:=o23 eB mB hmB oM;have csB:=csg mB (z3 hmB);have ixB:∀ {K:List PV->Prop},K (lc mB)->IdxOk 6 (λ_=>enc lc L) (λ_=>(b2:Int)-1) K:=λhK=>x5 hmB oM xB y7 hK;generalize yA mB.v.q=sgB at *;cbv;refine⟨zD (by exact om) (by exact om),ixB ?_⟩;cbv;refine cA csB ?_;cbv
    (refine rC ?_;cbv)
    exact⟨yV qA,zX qB.symm,trivial⟩
   ·have qB:=o22 eB (by exact om);cbv
    (refine rC ?_;cbv)
    exact⟨yV qA,zK qB,trivial⟩
 ·cbv;refine zQ (λfA=>?_) (λfA=>?_)
  ·(have gA:b1≠0:=by exact om);obtain⟨mA,hmA,hlA⟩:=hb1 gA
   have qA:=o13 eA mA hmA oM;have csA:=csg mA (z3 hmA);have ixA:∀ {K:List PV->Prop},K (lc mA)->IdxOk 6 (λ_=>enc lc L) (λ_=>(b1:Int)-1) K:=λhK=>x5 hmA oM xB y7 hK;generalize yA mA.v.q=sgA at *;cbv;refine⟨zD (by exact om) (by exact om),ixA ?_⟩;cbv;refine cA csA ?_;cbv;refine cA cd2 ?_;cbv;refine yB (λeB=>?_) (λeB=>?_)
   ·have qB:=o21 eB;cbv
    (refine rC ?_;cbv)
    exact⟨zX qA.symm,yV qB,trivial⟩
   ·cbv;refine zQ (λfB=>?_) (λfB=>?_)
    ·(have gB:b2≠0:=by exact om);obtain⟨mB,hmB,hlB⟩:=hb2 gB
     have qB:=o23 eB mB hmB oM;have csB:=csg mB (z3 hmB);have ixB:∀ {K:List PV->Prop},K (lc mB)->IdxOk 6 (λ_=>enc lc L) (λ_=>(b2:Int)-1) K:=λhK=>x5 hmB oM xB y7 hK;generalize yA mB.v.q=sgB at *;cbv;refine⟨zD (by exact om) (by exact om),ixB ?_⟩;cbv;refine cA csB ?_;cbv
     (refine rC ?_;cbv)
     exact⟨zX qA.symm,zX qB.symm,trivial⟩
    ·have qB:=o22 eB (by exact om);cbv
     (refine rC ?_;cbv)
     exact⟨zX qA.symm,zK qB,trivial⟩
  ·have qA:=o12 eA (by exact om);cbv;refine cA cd2 ?_;cbv;refine yB (λeB=>?_) (λeB=>?_)
   ·have qB:=o21 eB;cbv
    (refine rC ?_;cbv)
    exact⟨zK qA,yV qB,trivial⟩
   ·cbv;refine zQ (λfB=>?_) (λfB=>?_)
    ·(have gB:b2≠0:=by exact om);obtain⟨mB,hmB,hlB⟩:=hb2 gB
     have qB:=o23 eB mB hmB oM;have csB:=csg mB (z3 hmB);have ixB:∀ {K:List PV->Prop},K (lc mB)->IdxOk 6 (λ_=>enc lc L) (λ_=>(b2:Int)-1) K:=λhK=>x5 hmB oM xB y7 hK;generalize yA mB.v.q=sgB at *;cbv;refine⟨zD (by exact om) (by exact om),ixB ?_⟩;cbv;refine cA csB ?_;cbv
     (refine rC ?_;cbv)
     exact⟨zK qA,zX qB.symm,trivial⟩
    ·have qB:=o22 eB (by exact om);cbv
     (refine rC ?_;cbv)
     exact⟨zK qA,zK qB,trivial⟩


def xr (l:List Rat):Int->Rat:=λv=>(l[v.toNat]?).getD 0

def rU8 (w:World):ElR w 5 1 (λ_=>True) u8c :=
 (Pj (k:=.u8) Tryz.underlying5 (by kernel_rfl)).map (λn=>UInt8.ofNat n.toNat) (λn h=>by
  (have:0<=n/\n<=255:=by simpa[Lit.wf,IntKind.min,IntKind.max,IntKind.signed,IntKind.bits] using h);have e:((UInt8.ofNat n.toNat).toNat:Int)=n:=by rw[UInt8.toNat_ofNat_of_lt' (by show n.toNat<256;omega)];omega
  show [D.int .u8 _]=[D.int .u8 _];rw[e]) (λ_ _=>trivial)
def CC (w:World):ElR w 22 1 (λl=>l.length<=maxLen) (λl=>[u8v l]) :=
 (G9 (k:=1) Tryz.underlying22 (by kernel_rfl) (by decide) (rU8 w)).map (λl=>l) (λ_ _=>rfl) (λ_ h=>h.2)
def MM {w:World}{cs:Array Value}{pv:List PV}(hf:yT qO pv=true)(h:Cs w cs.toList (xT pv)):Rep w (InW w) β0 (.agg cs) (.agg pv):=by
 have hl:=h.len;rw[kH] at hl;refine .agg (by simpa using hl) λj hj=>?_;have:=h.get j (by rw[kH];exact hj);rw[j4] at this;refine .c (xV rfl hf j) ?_;have e:cs.toList.getD j undef=cs.getD j undef:=by simp[gE]
 rw[<-e];exact this.1




def YL (x y:Int):Bool:=decide (x<=y)
def j9 (ks:List Int):List Int:=ks.eraseDups.mergeSort YL
def XU (ks:List Int):ks.eraseDups.Nodup:=by
 have key:∀ (n:Nat) (l:List Int),l.length<=n->l.eraseDups.Nodup:=by
  intro n;induction n with
  |zero=>grind| succ n ih =>
   intro l h;cases l with
   |nil=>simp| cons a r =>
    grind [List.mem_eraseDups]
 exact key _ ks (Nat.le_refl _)
def Fy {l l':List Int}(h:∀ x,x∈l↔x∈l')(h1:l.Nodup)(h2:l'.Pairwise (·<·)):l.mergeSort YL=l':=by
 have tr:∀ a b c:Int,YL a b=true->YL b c=true->YL a c=true:=λa b c h1 h2=>by simp only[YL,decide_eq_true_eq] at *;omega
 have to:∀ a b:Int,(YL a b || YL b a)=true:=λa b=>by simp only[YL,Bool.or_eq_true,decide_eq_true_eq];omega
 refine List.Perm.eq_of_pairwise (le:=λa b=>YL a b=true) (λa b _ _ h1 h2=>by simp only[YL,decide_eq_true_eq] at h1 h2;omega) (List.pairwise_mergeSort tr to l) (h2.imp λ{a b} h=>by simp only[YL,decide_eq_true_eq];omega) ((List.mergeSort_perm l _).trans ?_);exact (List.perm_ext_iff_of_nodup h1 (h2.imp λ{a b} h=>by omega)).2 h
def Kd {ks l:List Int}(h:∀ x,x∈ks↔x∈l)(h2:l.Pairwise (·<·)):j9 ks=l:=Fy (λx=>by simp_all) (XU ks) h2
end Go.Proofs.YtaeaffgjdcigoaaGreat
namespace Go.Proofs.YtaeaffgjdcigoaaGreat
open Go Go.Maps WideElems Go.WideShapes
def FY {P:Program}{w:World}{k b n:Nat}{R:Value->Option (DataW Unit×List MemPlace)}{D:DataW Unit}{ks:List Int}(hk:P.underlying k=some (.int .i64))(hown:w.ownsMap P k R b n D) (hat:∀ x:Int,(Lit.int .i64 x).wf=true->∀ z:DataW Unit,D.atKey (.int .i64 x) z=if x∈ks then .lit (.bool true) else z) (hwf:∀ x,x∈ks->(Lit.int .i64 x).wf=true):ks.eraseDups.Perm (intKeys D)/\Maps.size D<=n:=by
 obtain⟨es,clock,hb,F,hn,rfl⟩:=hown;have hK:=Maps.int_keyed (P:=P) hk;have hks:=fit_keys F;have hap:=fit_apart hK F;have hP:((es.toList.map (rg P k R)).foldr DataW.insert []).Pairwise (λp q=>p.1≠q.1):=((sorted_perm _).pairwise_iff (λ{a b} (h:a.1≠b.1)=>h.symm)).2 hap;have hint:∀ p,p∈(es.toList.map (rg P k R)).foldr DataW.insert []->∃ x:Int,p.1=.int .i64 x/\(Lit.int .i64 x).wf=true:=λp hp=>by obtain⟨key,hkey⟩:=hks p (mem_sorted.1 hp);grind [Maps.keyOf_i64]
 refine⟨perm_intKeys hP (λp hp=>(hint p hp).imp λ_ h=>h.1) (XU ks) (λx=>?_),?_⟩
 ·rw[List.mem_eraseDups];constructor;{intro hx;exact has_true_of_atKey (y:=.lit (.bool true)) λz=>by grind}
  ·(intro hx;refine Decidable.byContradiction λhnx=>?_;have hw:(Lit.int .i64 x).wf=true:=by grind [has_eq,Lit.sameKey]);have:=has_false_of_atKey (D:=.map ((es.toList.map (rg P k R)).foldr DataW.insert [])) (k:=.int .i64 x) λz=>by grind
   grind
 {show ((es.toList.map (rg P k R)).foldr DataW.insert []).length<=n;rw[(Go.WideShapes.sorted_perm _).length_eq];grind}
end Go.Proofs.YtaeaffgjdcigoaaGreat
namespace Go.Proofs.YtaeaffgjdcigoaaGreat
open Go Go.RowKit
set_option maxHeartbeats 4000000
set_option maxRecDepth 100000
def Kk (ks:List Int)(hl:ks.length<2^40)(hb:∀ z,z∈ks->-9223372036854775808<=z/\z<=9223372036854775807):Sound 56 [.fn 125 [.ptr 1000001 0]] [(1000000,.mp 119 (λ_=>ks)),(1000001,.box [.mpv 1000000])] [] (.sl (λ_=>(j9 ks).map λz=>[D.int .i64 z])) [(1000000,.mp 119 (λ_=>ks)),(1000001,.box [.mpv 1000000])] []:=by
 refine⟨λvals w=>enters_of (P:=Pg) (by rw[uZ];exact Tryz.func56) (by kernel_rfl) rfl vals w,?_⟩;intro w S β vals hS hO hsz hv;have hbo:=hO.at_ 1000001 _ (wJ _ (wI ..));obtain⟨Bx,vs,T,b1,b2,b3,b4⟩:=hbo;have hmo:=hO.at_ 1000000 _ (wI ..);obtain⟨b,k,e,Dm,m1,⟨m2,m3,m4,m5⟩,m6,m7⟩:=hmo;have hBx:Bx<w.heap.size:=(hO.un 1000001 _ Bx (wJ _ (wI ..)) (.inl b1)).2;have hr:=b4 0 (by decide);obtain⟨b',hb',hmv⟩:=nX hr;have ebb:b'=b:=by rw[m1] at hb';exact (kF hb').symm
 rw[ebb] at hmv;have hvv:=hv 0 (by decide);obtain⟨cvs,hf1,hf2,hf3⟩:=gX hvv;obtain⟨Bx',hβx,hpv⟩:=kM (hf3 0 (by decide));have exx:Bx'=Bx:=by rw[b1] at hβx;exact (kF hβx).symm
 rw[exx] at hpv;have hcv:cvs=#[.pointer (some ⟨Bx,0,none⟩)]:=by
  obtain⟨l⟩:=cvs
  match l,hf2,hpv with
  |[x],_,h=>simp at h;rw[h]
 have hvals:vals=#[.func (.func 125) #[] #[.pointer (some ⟨Bx,0,none⟩)]]:=by
  rw[hcv] at hf1;obtain⟨l⟩:=vals
  match l,hsz,hf1 with
  |[x],_,h=>simp at h;rw[h]
 have hcell:w.cell? ⟨Bx,0,none⟩=some (.map (some b)):=by
  obtain⟨l⟩:=vs
  match l,b3,hmv,b2 with
  |[x],_,h,h2=>simp at h;simp[World.cell?,h2,h]
 have ek:k=3:=by
  (have h1:Pg.underlying 119=some (.map 3 4):=by rw[uZ];kernel_rfl);rw[h1] at m2
  cases m2;rfl
 rw[ek] at m3 m6;have hwf:∀ x,x∈ks->(Lit.int .i64 x).wf=true:=λx hx=>by simp only[Lit.wf,yP,decide_eq_true_eq];exact hb x hx
 obtain⟨kp,kn'⟩:=FY m3 m6 m7 hwf;have kn:Maps.size Dm<=ks.length:=kn';have hgo:Calls Pg 56 vals w λe w'=>∃ (v:Value) (ss:List Int),e=.returned v/\ss.Perm (intKeys Dm) /\
   w'.ownsRow w.heap.size 3 1 v ss.length ((ss.mergeSort (λx y=>decide (x<=y))).map encZ)/\(v=.slice none 0 0↔ss=[])/\Below w.heap.size w w':=by
  rw[hvals];rw[uZ] at m6 ⊢;exact Tryz.sortedGo b ks.length Bx Dm _ w hBx hcell m6 (by unfold maxLen;omega) oM
 refine hgo.mono ?_;rintro e' w' ⟨v,ss,rfl,hp,hrow,hnil,hbl⟩;have hsort:ss.mergeSort (λx y=>decide (x<=y))=j9 ks:=mergeSort_of_perm_i (hp.trans kp.symm);have hlen:(j9 ks).length=ss.length:=by rw[<-hsort,List.length_mergeSort]
 rw[hsort] at hrow;obtain⟨g,hgw,hg⟩:∃ g,w.heap.size<=g/\(0<ss.length->∃ cap cur,v=.slice (some ⟨g,0,none⟩) ss.length cap/\w'.heap[g]?=some (.cells cur 3 (0,0))/\ss.length<=cap/\cur.toList.take ss.length=(j9 ks).map encZ):=by rcases hrow.2 with⟨h1,h2⟩|⟨g,cap,cur,r1,r2,r3,r4,r5,r6,r7⟩;{exact⟨w.heap.size,yD _,λh=>absurd h oM⟩};{exact⟨g,r2,λ_=>⟨cap,cur,r1,r3,r4,by rw[tV] at r7;exact r7⟩⟩}
 have hld:Leads w S u7 w' (λb i=>S b i\/(b=g/\i<ss.length)):=⟨hbl.size,hbl.os,hbl.tape,hbl.output,λb hb _=>hbl.block b hb,
  λb vs T h=>⟨vs,by rw[hbl.block b (Array.getElem?_eq_some_iff.1 h).1];exact h,rfl⟩,
  λb i h=>by
   rcases h with h|⟨rfl,h⟩;{exact uY (hS b i h) hbl.size}
   ·obtain⟨cap,cur,_,h2,_⟩:=hg oM;exact (Array.getElem?_eq_some_iff.1 h2).1,
  λb i _ h=>.inl h,λb i hb _ h=>h.elim id (λh=>absurd hb oM)⟩
 refine⟨v,_,β,rfl,⟨hld.size,hld.os,hld.tape,hld.output,λb hb _=>hld.same b hb (λh=>h),hld.shape,hld.bnd,hld.sub,λb i hb _=>hld.old b i hb (λh=>h)⟩,?_,hO.go hld hS,rfl,λ_ _ _=>rfl,λn o b h h'=>.inr ⟨n,o,h,h'⟩⟩;refine .c rfl ?_;show RepD _ _ v (.sl ((j9 ks).map λz=>[D.int .i64 z]));by_cases h0:0<ss.length
 ·(obtain⟨cap,cur,r1,r3,r4,r7⟩:=hg h0;have hel:((j9 ks).map λz=>[D.int .i64 z]).length=ss.length:=by rw[y4,hlen]);rw[r1,<-hel]
  refine .sl (s:=1) (λi _=>.int .i64 ((j9 ks).getD i 0)) (λh=>by rw[h] at hel;simp at hel;omega) oM (λi j h1 h2=>.inr ⟨rfl,by omega⟩) (λe he=>by obtain⟨z,_,rfl⟩:=yZ.1 he;rfl) (λi j h1 h2=>?_) (λ_ _ _ _=>rfl) (λi j h1 h2=>?_)
  ·(have hj:j=0:=by omega);subst hj
   (have hi:i<ss.length:=by omega);have hcur:cur[i]?=some (.int .i64 ((j9 ks).getD i 0)):=by have:=congrArg (λl=>l[i]?) r7;simp only[bT hi,dH] at this;rw[gC (by omega:i<(j9 ks).length)] at this;rw[<-Array.getElem?_toList,this,gE,gC (by omega:i<(j9 ks).length)];rfl
   simp[World.cell?,r3,hcur]
  ·(have hj:j=0:=by omega);subst hj
   (have hi:i<(j9 ks).length:=by omega);have e1:((j9 ks).map λz=>[D.int .i64 z]).getD i []=[D.int .i64 ((j9 ks).getD i 0)]:=by simp only[gE,dH,gC hi];rfl
   rw[e1];exact .int _ _
 {have hz:ss=[]:=kD oM;have hk0:j9 ks=[]:=kD (by rw[hlen,hz];rfl);rw[hk0,hnil.2 hz];exact .sl0 _ _}
end Go.Proofs.YtaeaffgjdcigoaaGreat
namespace Go.Proofs.YtaeaffgjdcigoaaGreat
open Go
abbrev Bd:=R×List (Row×Rat)
def inG (q:Qry) (up:Bool) (i:Int):Nat->List Dec->Bd->Bd
 |_,[],b=>b| k,d::r,b=>inG q up i (k+1) r (if d.k=(if up=true then 4 else 3)/\d.i=i/\d.fits q=true/\0<(if up=true then -1 else 1)*uV d.x.q b.1.q then (d.x,[(⟨4,k,0,0⟩,1)]) else b)
def Scp.inB (s:Scp) (i:Int) (up:Bool):Bd :=
 inG s.q up i 0 s.path (if up=true then ((s.q.r.hi[i.toNat]?).getD R0,[(⟨2,i,0,0⟩,1)]) else ((s.q.r.lo[i.toNat]?).getD R0,[(⟨1,i,0,0⟩,1)]))
def Scp.vLo (s:Scp) (j:Int):Rat:=qW s.lems (s.best j).1
def Scp.vHi (s:Scp) (j:Int):Rat:=qW s.lems (s.best j).2
def Scp.leB (s:Scp) (j:Int):Bd :=
 if (s.best j).1=0\/yA (s.vLo j)<=0 then (R0,[(⟨5,j,0,0⟩,1)]) else (zI (s.vLo j),[(⟨6,j,0,0⟩,1),(⟨11,j,(s.best j).1,0⟩,1)])
def Scp.offR (s:Scp) (j:Int):Row×Bool :=
 if s.dcd 2 j=true then (⟨10,j,0,0⟩,true) else (⟨10,j,0,(s.best j).2⟩,decide (0<(s.best j).2)&&decide (yA (s.vHi j)<=0))
def Scp.onR (s:Scp) (j:Int):Row×Bool :=
 if s.dcd 1 j=true then (⟨8,j,0,0⟩,true) else (⟨8,j,(s.best j).1,0⟩,decide (0<(s.best j).1)&&decide (0<=yA (s.vLo j)))
def Scp.moB (s:Scp) (j:Int):Option Bd :=
 if (s.offR j).2=true then some (R0,[((s.offR j).1,1)])
 else if (s.best j).2=0\/((s.onR j).2=false/\(s.best j).1=0) then none
 else if (s.onR j).2=true then some (zI (s.vHi j),[((s.onR j).1,1),(⟨12,j,0,(s.best j).2⟩,1)])
 else some (zI (s.vHi j),[(⟨12,j,0,(s.best j).2⟩,(1/(s.vHi j-s.vLo j))*s.vHi j),(⟨13,j,(s.best j).1,(s.best j).2⟩,1/(s.vHi j-s.vLo j))])
def Scp.ofB (s:Scp) (v:Int) (up:Bool):Option Bd :=
 if v<s.q.g.n then some (s.inB v up) else if up=true then s.moB (v-s.q.g.n) else some (s.leB (v-s.q.g.n))
def Scp.boxL (s:Scp):List (Int×Rat)->Rat->List (Row×Rat)->Option (Rat×List (Row×Rat))
 |[],a,l=>some (a,l)
 |t::r,a,l=>match s.ofB t.1 (decide (yA t.2<0)) with
  |none=>none| some b=>s.boxL r (a+t.2*b.1.q) (xR l b.2 (vI t.2))
def Scp.box (s:Scp) (f:F):Option (Rat×List (Row×Rat)):=s.boxL f.ts f.c []
def iI (l u:Rat):Bool:=decide (yA l<0)&&decide (0<yA u)
def sJ (l u:Rat):Bool:=iI l u&&decide (0<yA (l+u))
def F.subst (f:F) (v:Int) (g:F):F:=F.add ⟨xO v (-(co f.ts v)) false f.ts,f.c⟩ (g.scale (co f.ts v))
def Scp.repl (s:Scp) (p:F) (c:Rat) (j:Int):Option (Row×F×Rat) :=
 if (s.onR j).2=true then some ((if 0<yA c then ⟨6,j,0,0⟩ else (s.onR j).1),p,vI c)
 else if (s.offR j).2=true then some ((if yA c<0 then (s.offR j).1 else ⟨5,j,0,0⟩),F.zero,vI c)
 else if 0<yA c then
  (if 0<(s.best j).1/\0<(s.best j).2/\sJ (s.vLo j) (s.vHi j)=true then some (⟨6,j,0,0⟩,p,vI c) else some (⟨5,j,0,0⟩,F.zero,vI c))
 else if (s.best j).1=0\/(s.best j).2=0 then none
 else some (⟨13,j,(s.best j).1,(s.best j).2⟩,(p.scale (s.vHi j/(s.vHi j-s.vLo j))).add (F.num (-(s.vLo j*s.vHi j)/(s.vHi j-s.vLo j))),vI c/(s.vHi j-s.vLo j))
def Scp.rep1 (s:Scp) (p:F) (j:Nat) (x:F×List (Row×Rat)):Option (F×List (Row×Rat)) :=
 if yA (co x.1.ts (s.q.g.n+j))=0 then some x
 else match s.repl p (co x.1.ts (s.q.g.n+j)) j with
  |none=>none| some y=>some (x.1.subst (s.q.g.n+j) y.2.1,plMq x.2 y.1 y.2.2)
def Scp.backG (s:Scp):Nat->F×List (Row×Rat)->Option (F×List (Row×Rat))
 |0,x=>some x
 |j+1,x=>match s.q.g.us[j]? with
  |none=>none
  |some p=>match s.rep1 p.f j x with
   |none=>none| some y=>s.backG j y
def Scp.back (s:Scp) (f:F):Option (F×List (Row×Rat)):=s.backG s.q.g.us.length (f,[])
def oV (o:Option (Rat×List (Row×Rat))):Rat:=(o.map Prod.fst).getD 0
def oL (o:Option (Rat×List (Row×Rat))):List (Row×Rat):=(o.map Prod.snd).getD []
def Scp.low (s:Scp) (f:F):Option (Rat×List (Row×Rat)):=(s.back f).map λg=>(oV (s.box g.1),xR g.2 (oL (s.box g.1)) 1)
def Scp.dom (s:Scp) (n:Nat) (f:F):Option (Rat×List (Row×Rat)) :=
 if n=0\/(n=2/\(s.box f).isSome=true/\((s.low f).isSome=false\/0<=uV (oV (s.box f)) (oV (s.low f)))) then s.box f else s.low f
def Scp.strg (s:Scp) (u:Int) (up:Bool) (x:Rat):Bool :=
 if up=true then decide ((s.best u).2=0\/uV x (s.vHi u)<0) else decide ((s.best u).1=0\/0<uV x (s.vLo u))
def runL (s:Scp) (u:Int) (up:Bool) (o:Option (Rat×List (Row×Rat))):List Lem :=
 match o with
 |none=>[]| some v=>if s.strg u up (if up=true then -v.1 else v.1)=true then [⟨u,up,zI (if up=true then -v.1 else v.1),mR v.2⟩] else []
def runS (n:Nat) (s:Scp) (u:Int) (up:Bool) (f:F):Scp:=⟨s.q,s.path,s.lems++runL s u up (s.dom n f)⟩
def runG (n:Nat):List A->Nat->Scp->Scp
 |[],_,s=>s| p::r,j,s=>runG n r (j+1) (runS n (runS n s j false p.f) j true (p.f.scale (-1)))
def Scp.run (s:Scp) (n:Nat):Scp:=runG n s.q.g.us 0 s
def y9 (raw:List UInt8):Nat:=(raw.map UInt8.toNat).sum
def ext (raw:List UInt8):Scp:=if 0<y9 raw%3 then (fdS raw).bounded else fdS raw
def dvd (raw:List UInt8):Scp:=if y9 raw%5<3 then (ext raw).run (y9 raw%5) else ext raw
def Scp.opn (s:Scp) (j:Int):Bool:=!(s.dcd 1 j || (decide (0<(s.best j).1)&&decide (0<=yA (s.vLo j)))) && !(s.dcd 2 j || (decide (0<(s.best j).2)&&decide (yA (s.vHi j)<=0)))
def opnG (n:Nat):Nat->Nat->Scp->Scp
 |0,_,s=>s| k+1,j,s=>opnG n k (j+1) (if s.opn j=true/\(n+7*j)%4<2 then ⟨s.q,s.path++[⟨1+((n+7*j)%4:Nat),j,R0⟩],s.lems⟩ else s)
def dT (f:A) (x:Rat):A:=if x<0 then ⟨f.ts,zI (f.c.q-x)⟩ else f
def jJ (raw:List UInt8):Scp :=
 let s1:=(dvd raw).run (y9 raw%3)
 let s2:=opnG (y9 raw) s1.q.g.us.length 0 s1
 if y9 raw%2=0 then s2.run 1 else s2
def mE (raw:List UInt8):Option (Rat×List (Row×Rat)):=(jJ raw).dom 2 (jJ raw).q.goal.f
def clo (raw:List UInt8):Scp:=⟨⟨(jJ raw).q.g,(jJ raw).q.r,dT (jJ raw).q.goal (oV (mE raw))⟩,(jJ raw).path,(jJ raw).lems⟩
def aA (raw:List UInt8):List (Row×Rat):=oL (mE raw)
end Go.Proofs.YtaeaffgjdcigoaaGreat
