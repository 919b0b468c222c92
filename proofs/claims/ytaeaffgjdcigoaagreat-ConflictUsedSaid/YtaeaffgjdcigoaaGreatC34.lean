/- A part of the proof: KpD, KcE, KcF, KcA. -/
import Derived.Test.YtaeaffgjdcigoaaGreatC33
import Derived.Test.YtaeaffgjdcigoaaGreatC22
import Derived.Test.YtaeaffgjdcigoaaGreatC26
import Derived.Test.YtaeaffgjdcigoaaGreatC32
set_option linter.all false
namespace Go.Proofs.YtaeaffgjdcigoaaGreat
open Go
set_option maxRecDepth 100000
set_option maxHeartbeats 4000000
def vol (s:Scp) (st:Ust):Nat:=st.2.length+um s st.2
theorem oQ {s:Scp}{U:List Mult->Ust->Ust}{f:Nat}(hU:∀ l a,um s a.2<f->vol s (U l a)=vol s a){n:Int}{a:Ust}(hf:um s a.2<=f):vol s (dC s U n a)=vol s a:=by unfold dC;split;{rename_i h;obtain⟨h0,h1,h2⟩:=h;have hu:=zIT h0 h1 h2;rw[hU (s.pfn n) (a.1,n::a.2) (by show um s (n::a.2)<f;omega)];show (n::a.2).length+um s (n::a.2)=a.2.length+um s a.2;rw[kI];omega};{rfl}
theorem zDC {s:Scp}{U:List Mult->Ust->Ust}{f:Nat}(hR:∀ l a,um s a.2<f->Run s l a (U l a)){n:Int}{a:Ust}(hf:um s a.2<=f):um s (dC s U n a).2<=f :=
 vD (eI fun k hk=>(mK hR (n:=n) hf).1 k hk) hf
theorem zDN {s:Scp}{U:List Mult->Ust->Ust}{f:Nat}(hR:∀ l a,um s a.2<f->Run s l a (U l a))(hU:∀ l a,um s a.2<f->vol s (U l a)=vol s a):∀ (l:List Mult) (a:Ust),um s a.2<=f->vol s (useL s U l a)=vol s a
 |[],a,_=>rfl| m::r,a,hf=>by unfold useL;have u1:um s ((cY (s.rowD m.row) a.1,a.2):Ust).2<=f:=hf;have u2:=zDC hR (n:=m.row.lo-1) u1;have u3:=zDC hR (n:=m.row.hi-1) u2;rw[zDN hR hU r _ u3,oQ hU u2,oQ hU u1];rfl
theorem zDQ (s:Scp):∀ (f:Nat) (l:List Mult) (a:Ust),um s a.2<=f->vol s (sK s f l a)=vol s a
 |0,l,a,h=>zDN (f:=0) (fun _ _ h=>absurd h oM) (fun _ _ h=>absurd h oM) l a h| f+1,l,a,h=>zDN (f:=f+1) (fun l a h=>tN s f l a oM) (fun l a h=>zDQ s f l a oM) l a h
theorem rJ {rs:List ResultVar}{r:PV}{ps ps':PS}{kept:List (Nat×Obj')}(hw:Wk ps ps')(h3:lv r=true)(h4:kF id ps'.objs kept)(h5:ndO (z5 id kept)=true)(h6:zFI id kept)(h:match dJ ps' rs with
  |some l=>les (lD l) (ren id r)| none=>False):RetOk rs r kept [] ps:=by
 cases h1:dJ ps' rs with
 |none=>rw[h1] at h;exact h.elim| some l=>rw[h1] at h;exact⟨ps',l,id,hw,h1,dO h,h3,by rw[uU];exact h4,by rw[uU];exact h5,h6⟩
def bc (b:Bool):List PV:=[.bool (fun _=>b)]
theorem lA (b:Bool):yR qW (bc b)=true:=rfl
theorem zB4 (b:Bool):(bc b).length=1:=rfl
def ic (z:Int):List PV:=[.int .i64 (fun _=>z)]
theorem nW (b:Int):yR qW (ic b)=true:=rfl
theorem zB0 (b:Int):(ic b).length=1:=rfl
abbrev zlv (l:List Int):PV:=.sl (fun _=>enc ic l)
theorem zYC:ty 49=.sli 1 8 [.int .i64 (fun _=>0)]:=by cbv
structure Psz (s:Scp):Prop where
 q:s.q.sz (2^31)
 p:Dsz (2^32) s.path
 v:s.q.valid=true
def oW {α:Type} (P:α->Bool) (i:Int) (l:List α):Int:=if uP P l<0 then -1 else uP P l+i
theorem zAS {α:Type}(P:α->Bool)(i:Int)(a:α)(r:List α):oW P i (a::r)=if P a=true then i else oW P (i+1) r:=by unfold oW;rw[show uP P (a::r)=if P a then 0 else if uP P r<0 then -1 else uP P r+1 from rfl];have:=d7 P r;by_cases h:P a=true;{simp[h]};{rw[if_neg h,if_neg h];split <;> split <;> (try split) <;> omega}
theorem zAR {α:Type}(P:α->Bool)(l:List α):oW P 0 l=uP P l:=by unfold oW;have:=d7 P l;split <;> omega
theorem sKdn (s:Scp)(kind unit:Int)(hs:Psz s):zE 103 [sv s,.int .i64 (fun _=>kind),.int .i64 (fun _=>unit)] (.int .i64 (fun _=>s.fst kind unit)):=by
 refine sF Tryz.f103 ?_;have cf:∀ d,d∈s.path->zE 105 [qv s.q,dv d] (.bool (fun _=>d.fits s.q)):=fun d h=>by have:=zT1 s.q d hs.q (hs.p.sz d h);rw[hs.v,yU] at this;exact this
 have hpl:=hs.p.len;generalize hr:s.fst kind unit=r;have hr0:r=oW (fun d=>decide (d.k=kind)&&(decide (d.i=unit)&&d.fits s.q)) 0 (s.path.drop 0):=by rw[zAR];exact hr.symm
 obtain⟨ft,hft⟩:∃ ft:Dec->Bool,∀ d,ft d=d.fits s.q:=⟨_,fun _=>rfl⟩;simp only[<-hft] at cf hr0;obtain⟨P,hP⟩:∃ P:Dec->Bool,(fun d=>decide (d.k=kind)&&(decide (d.i=unit)&&ft d))=P:=⟨_,rfl⟩;rw[hP] at hr0;have hPd:∀ d,P d=(decide (d.k=kind)&&(decide (d.i=unit)&&ft d)):=fun d=>by rw[<-hP]
 obtain⟨X,hX⟩:∃ X:Int->List Dec->Int,∀ i l,X i l=oW P i l:=⟨_,fun _ _=>rfl⟩;have hXn:∀ i,X i []=-1:=fun i=>by rw[hX];rfl
 have hXc:∀ i d r,X i (d::r)=if P d=true then i else X (i+1) r:=fun i d r=>by rw[hX,hX,zAS]
 rw[<-hX] at hr0;clear hP hft hr hs hX;cbv;refine z3 (σ:=Nat) (fun i=>⟨[(1,.int .i64 (fun _=>kind)),(2,.int .i64 (fun _=>unit)),(3,.ptr 3 0),(7,.int .i64 (fun _=>(i:Int)))],[(3,.box (sc s))]⟩) (fun i=>i<=s.path.length/\r=X i (s.path.drop i)) (fun i=>s.path.length-i) 0 ⟨by omega,hr0⟩ (wkZ) ?_;clear hr0;intro i hi;obtain⟨h1,h2⟩:=hi;cbv;refine zG (fun h5=>?_) (fun h5=>?_)
 ·have hlt:=gU h5;obtain⟨d,hd⟩:=zT hlt;have cv:=cf d (yA hd);rw[zY hd,hXc,hPd] at h2;generalize ft d=fd at *
  cbv;refine zN 28 (by cbv) ?_;cbv;refine yX hd qM jH ?_;cbv;refine zQ (fun e1=>?_) (fun e1=>?_)
  rotate_left
  {rw[decide_eq_false e1,kJ,if_neg (by decide)] at h2;cbv;exact⟨zD om om,i+1,⟨om,h2⟩,om,wkZ⟩};rw[decide_eq_true e1,yU] at h2;cbv;refine yX hd qM jH ?_;cbv;refine zQ (fun e2=>?_) (fun e2=>?_)
  rotate_left
  {rw[decide_eq_false e2,kJ,if_neg (by decide)] at h2;cbv;exact⟨zD om om,i+1,⟨om,h2⟩,om,wkZ⟩};rw[decide_eq_true e2,yU] at h2;cbv;refine yX hd qM jH ?_;cbv;refine dA cv ?_;cbv;refine zP (fun e3=>?_) (fun e3=>?_)
  ·rw[if_pos e3] at h2;cbv
   (refine rC ?_;cbv)
   exact zC h2.symm
  {rw[if_neg (by rw[e3];decide)] at h2;cbv;exact⟨zD om om,i+1,⟨om,h2⟩,om,wkZ⟩}
 ·have he:=bJ h5 h1;rw[he,w4,hXn] at h2;cbv
  (refine rC ?_;cbv)
  exact zC h2.symm
theorem sKrw (s : Scp) (r : Row) (hs : Psz s) : zE 126 [sv s, rwv r] (.int .i64 (fun _ => s.rowD r)) := by
  refine sF Tryz.f126 ?_
  have c1 := sKdn s 1 r.i hs
  have c2 := sKdn s 2 r.i hs
  have hr : s.rowD r = if r.k = 4 then r.i else if (r.k = 7 ∨ r.k = 8) ∧ r.lo = 0 then s.fst 1 r.i else if (r.k = 9 ∨ r.k = 10) ∧ r.hi = 0 then s.fst 2 r.i else -1 := rfl
  generalize s.rowD r = d at *
  generalize s.fst 1 r.i = f1 at *
  generalize s.fst 2 r.i = f2 at *
  obtain ⟨k, i, lo, hi⟩ := r
  dsimp only at *
  have rt : ∀ x : Int, x = d → LeS (.int .i64 (fun _ => x)) (.int .i64 (fun _ => d)) := fun x h => zC h
  clear hs
  cbv
  repeat' first
    | (refine zG (fun e => ?_) (fun e => ?_) <;> cbv)
    | ((refine rC ?_; cbv); refine rt _ ?_; rw [hr]; (try dsimp only [zF] at *); grind)
    | (exfalso; (try dsimp only [zF] at *); omega)
    | (have g : k = 7 ∨ k = 8 := by (try dsimp only [zF] at *); omega
       refine yP rfl okA c1 rfl ?_; cbv)
    | (have g : k = 9 ∨ k = 10 := by (try dsimp only [zF] at *); omega
       refine yP rfl okA c2 rfl ?_; cbv)
theorem zNV (D:List Bool)(d:Int):kN D d=if 0<=d/\d<D.length then D.set d.toNat true else D:=rfl
theorem pA {D:List Bool}{d:Int}(h0:0<=d)(h1:d<D.length){k:Nat}(hk:k=d.toNat):(enc bc D).set k [.bool true]=enc bc (kN D d):=by rw[zNV,if_pos ⟨h0,h1⟩,<-pT,hk];rfl
theorem eM {D:List Bool}{d:Int}(h:¬(0<=d/\d<D.length)):kN D d=D:=by rw[zNV,if_neg h]
abbrev bao (n:Nat) (l:List Bool):Nat×Obj':=(n,.arr 1 (fun _=>enc bc l))
theorem sKmk (s : Scp) (l : List Mult) (st : Mst) (hs : Psz s) (hl : l.length < 2^38) (h1 : st.1.length < 2^38) (h2 : st.2.length < 2^38) :
    Sound 58 [sv s, mlv l, .osl 1000000 1 (fun _ => 0) (fun _ => st.1.length), .osl 1000001 1 (fun _ => 0) (fun _ => st.2.length)] [bao 1000000 st.1, bao 1000001 st.2] []
      (.tup [.osl 1000000 1 (fun _ => 0) (fun _ => st.1.length), .osl 1000001 1 (fun _ => 0) (fun _ => st.2.length)]) [bao 1000000 (sX s l st).1, bao 1000001 (sX s l st).2] [] := by
  refine sF Tryz.f58 ?_
  have cr := fun r => sKrw s r hs
  obtain ⟨R, hR⟩ : ∃ R, s.rowD = R := ⟨_, rfl⟩
  obtain ⟨W, hW⟩ : ∃ W, sX s l st = W := ⟨_, rfl⟩
  obtain ⟨X, hX⟩ : ∃ X : List Mult → Mst → Mst, sX s = X := ⟨_, rfl⟩
  have hXn : ∀ st, X [] st = st := fun st => by rw [← hX]; rfl
  have hXc : ∀ m r st, X (m :: r) st = X r (kN st.1 (R m.row), kN (kN st.2 (m.row.lo - 1)) (m.row.hi - 1)) := fun m r st => by rw [← hX, ← hR]; rfl
  rw [hW]
  rw [hX] at hW
  rw [hR] at cr
  obtain ⟨W1, W2⟩ := W
  obtain ⟨D0, M0⟩ := st
  dsimp only at *
  clear hR hX hs
  cbv
  refine z3 (σ := Nat × List Bool × List Bool) (fun x => ⟨[(1, mlv l), (2, .osl 1000000 1 (fun _ => 0) (fun _ => D0.length)), (3, .osl 1000001 1 (fun _ => 0) (fun _ => M0.length)), (4, .ptr 4 0), (10, .int .i64 (fun _ => (x.1 : Int)))], [bao 1000000 x.2.1, bao 1000001 x.2.2, (4, .box (sc s))]⟩)
    (fun x => x.1 ≤ l.length ∧ X (l.drop x.1) (x.2.1, x.2.2) = (W1, W2) ∧ x.2.1.length = D0.length ∧ x.2.2.length = M0.length) (fun x => l.length - x.1) (0, D0, M0) ⟨xD _, hW, rfl, rfl⟩ (wkZ) ?_
  clear hW
  intro x hx
  obtain ⟨i, D, M⟩ := x
  obtain ⟨g1, g2, g3, g4⟩ := hx
  dsimp only at g1 g2 g3 g4
  cbv
  refine zG (fun h5 => ?_) (fun h5 => ?_)
  · have hlt := gU h5
    obtain ⟨m, hm⟩ := zT hlt
    rw [zY hm, hXc] at g2
    have c := cr m.row
    obtain ⟨⟨mk, mi, mlo, mhi⟩, mcf⟩ := m
    dsimp only at g2 c
    generalize R ⟨mk, mi, mlo, mhi⟩ = d at *
    have len1 := kM D d
    have len2 := kM M (mlo - 1)
    have len3 := kM (kN M (mlo - 1)) (mhi - 1)
    have fD1 : ¬ (0 ≤ d ∧ d < D.length) → enc bc D = enc bc (kN D d) := fun h => by rw [eM h]
    have fD2 : 0 ≤ d → d < D.length → (enc bc D).set (0 + d.toNat) [.bool true] = enc bc (kN D d) := fun h h' => pA h h' oM
    have fM1 : ¬ (0 ≤ mlo - 1 ∧ mlo - 1 < M.length) → ¬ (0 ≤ mhi - 1 ∧ mhi - 1 < M.length) → enc bc M = enc bc (kN (kN M (mlo - 1)) (mhi - 1)) := fun h h' => by rw [eM h, eM h']
    have fM2 : 0 ≤ mlo - 1 → mlo - 1 < M.length → ¬ (0 ≤ mhi - 1 ∧ mhi - 1 < M.length) → (enc bc M).set (0 + (mlo - 1).toNat) [.bool true] = enc bc (kN (kN M (mlo - 1)) (mhi - 1)) := fun h h' h'' => by rw [eM (D := kN M (mlo - 1)) (by rw [len2]; exact h'')]; exact pA h h' oM
    have fM3 : ¬ (0 ≤ mlo - 1 ∧ mlo - 1 < M.length) → 0 ≤ mhi - 1 → mhi - 1 < M.length → (enc bc M).set (0 + (mhi - 1).toNat) [.bool true] = enc bc (kN (kN M (mlo - 1)) (mhi - 1)) := fun h h' h'' => by rw [eM h]; exact pA h' h'' oM
    have fM4 : 0 ≤ mlo - 1 → mlo - 1 < M.length → 0 ≤ mhi - 1 → mhi - 1 < M.length → ((enc bc M).set (0 + (mlo - 1).toNat) [.bool true]).set (0 + (mhi - 1).toNat) [.bool true] = enc bc (kN (kN M (mlo - 1)) (mhi - 1)) := fun h h' g g' => by rw [pA h h' (k := 0 + (mlo - 1).toNat) oM]; exact pA g (by rw [len2]; exact g') oM
    have hend : ∀ D' M' : List Bool, D' = kN D d → M' = kN (kN M (mlo - 1)) (mhi - 1) → (i + 1 ≤ l.length ∧ X (l.drop (i + 1)) (D', M') = (W1, W2) ∧ D'.length = D0.length ∧ M'.length = M0.length) := fun D' M' e1 e2 => by
      rw [e1, e2]
      exact ⟨hlt, g2, by omega, by omega⟩
    clear cr hXn hXc g2
    cbv
    refine yX hm vP wA ?_
    cbv
    refine cA c ?_
    cbv
    repeat' first
      | (refine zQ (fun e => ?_) (fun e => ?_) <;> cbv)
      | (refine zG (fun e => ?_) (fun e => ?_) <;> cbv)
      | (refine ⟨zD om om, (i + 1, kN D d, kN (kN M (mlo - 1)) (mhi - 1)), hend _ _ rfl rfl, om, .le okZ ?_ rfl⟩
         cbv
         refine ⟨zI ?_, zI ?_, ?_⟩
         · first | exact fD1 om | exact fD2 om om
         · first | exact fM1 om om | exact fM2 om om om | exact fM3 om om om | exact fM4 om om om om
         · exact okZ)
      | (refine ⟨y9 om om, nY (p := bc) D rfl d.toNat om om lA zB4 (fun a ha => ?_)⟩; cbv)
      | (refine ⟨zD om om, y9 om om, nY (p := bc) M rfl _ rfl om lA zB4 (fun a ha => ?_)⟩; cbv)
      | (refine ⟨zD om om, y9 om om, nY (p := bc) (kN M (mlo - 1)) (pA om om om) _ rfl om lA zB4 (fun a ha => ?_)⟩; cbv)
  · have hi : i = l.length := bJ h5 g1
    subst hi
    rw [w4, hXn] at g2
    cases g2
    cbv
    refine rJ (.refl _) rfl ⟨⟨rfl, rfl⟩, ⟨rfl, rfl⟩, trivial⟩ rfl ⟨⟨rfl, by decide⟩, ⟨rfl, by decide⟩, trivial⟩ ?_
    cbv
    exact okA
theorem yAK {rs:List ResultVar}{r:PV}{ps ps':PS}{made:List (Nat×Obj')}(hn:Nat->Nat)(hw:Wk ps ps')(h3:lv r=true)(h4:kF hn ps'.objs made)(h5:ndO (z5 hn made)=true)(h:match dJ ps' rs with
  |some l=>les (lD l) (ren hn r)| none=>False):RetOk rs r [] made ps:=by
 cases h1:dJ ps' rs with
 |none=>rw[h1] at h;exact h.elim| some l=>rw[h1] at h;exact⟨ps',l,hn,hw,h1,dO h,h3,h4,h5,trivial⟩
theorem zY4 {s:Scp}{n:Nat}{m:Lem}(h:s.lems[n]?=some m):s.pfn n=m.pf:=by unfold Scp.pfn;rw[mW,h];rfl
theorem zOU (n:Nat):List.replicate n [D.bool false]=enc bc (List.replicate n false):=by simp[enc,bc,wB,toD]
theorem sKms (s : Scp) (l : List Mult) (hs : Psz s) (hl : l.length < 2^38) (hL : s.lems.length < 2^38) (hpf : ∀ m, m ∈ s.lems → m.pf.length < 2^38) :
    Sound 15 [sv s, mlv l] [] [] (.tup [.osl 100 1 (fun _ => 0) (fun _ => s.path.length), .osl 101 1 (fun _ => 0) (fun _ => s.lems.length)]) [] [bao 100 (s.marks l).1, bao 101 (s.marks l).2] := by
  refine sF Tryz.f15 ?_
  have hpl := hs.p.len
  have cm := fun l st h h1 h2 => sKmk s l st hs h h1 h2
  have hml := fun l st => nR s l st
  obtain ⟨X, hX⟩ : ∃ X : List Mult → Mst → Mst, sX s = X := ⟨_, rfl⟩
  obtain ⟨G, hG⟩ : ∃ G : Nat → Mst → Mst, mI s = G := ⟨_, rfl⟩
  have hG0 : ∀ st, G 0 st = st := fun st => by rw [← hG]; rfl
  have hGs : ∀ n m st, s.lems[n]? = some m → G (n + 1) st = G n (if st.2.getD n false = true then X m.pf st else st) := fun n m st h => by rw [← hG, ← hX, ← zY4 h]; rfl
  have hR : s.marks l = G s.lems.length (X l (List.replicate s.path.length false, List.replicate s.lems.length false)) := by rw [← hG, ← hX]; rfl
  obtain ⟨R, hRe⟩ : ∃ R, s.marks l = R := ⟨_, rfl⟩
  rw [hRe] at hR ⊢
  rw [hX] at cm hml
  obtain ⟨st1, hst1⟩ : ∃ st, X l (List.replicate s.path.length false, List.replicate s.lems.length false) = st := ⟨_, rfl⟩
  have c1 := cm l (List.replicate s.path.length false, List.replicate s.lems.length false) hl (by simpa using hpl) (by simpa using hL)
  have hl1 := hml l (List.replicate s.path.length false, List.replicate s.lems.length false)
  rw [hst1] at hR c1 hl1
  simp only [List.length_replicate] at c1 hl1
  obtain ⟨D1, M1⟩ := st1
  obtain ⟨RD, RM⟩ := R
  dsimp only at *
  generalize hD0 : List.replicate s.path.length false = D0 at *
  generalize hM0 : List.replicate s.lems.length false = M0 at *
  have e1 : ∀ n : Nat, n = s.path.length → List.replicate n [D.bool false] = enc bc D0 := fun n h => by rw [h, zOU, hD0]
  have e2 : ∀ n : Nat, n = s.lems.length → List.replicate n [D.bool false] = enc bc M0 := fun n h => by rw [h, zOU, hM0]
  clear hX hG hRe hst1 hs
  cbv
  refine pU (σ := Unit) (fun _ => ⟨[(1, mlv l), (2, .ptr 2 0), (6, .osl 12 1 (fun _ => 0) (fun _ => s.path.length)), (7, .osl 16 1 (fun _ => 0) (fun _ => s.lems.length))], [(2, .box (sc s)), bao 12 D0, bao 16 M0]⟩) (fun _ => True) (.refl _) (by cbv) ?_ ?_
  · cbv
    repeat' first
      | exact trivial
      | (refine ⟨(), trivial, .le ?_ ?_ rfl⟩
         · cbv; exact ⟨lR, lR, yC rfl (by simp [zA]), yC rfl (by simp [zA]), trivial⟩
         · cbv; refine ⟨?_, zI (e1 _ (by simp [zA])), zI (e2 _ (by simp [zA])), trivial⟩; repeat' first | exact trivial | exact lR | apply And.intro)
      | (refine ⟨yD (by simp [zA] <;> omega) (by simp only [zA]; (try dsimp only [zF] at *); omega), jO (by simp [zA] <;> omega) (by simp [zA]), ?_⟩; cbv)
      | apply And.intro
  intro _ _
  cbv
  refine y0 hnM0 (.refl _) rfl (by exact ⟨by repeat' first | exact trivial | exact lR | apply And.intro, lR, lR, lR, trivial⟩) c1 ⟨⟨rfl, rfl⟩, ⟨rfl, rfl⟩, trivial⟩ rfl rfl rfl rfl rfl rfl rfl rfl ?_
  cbv
  clear c1 e1 e2 hD0 hM0
  obtain ⟨hl1, hl2⟩ := hl1
  refine ⟨zD (by rw [zA]; (try dsimp only [zF] at *); omega) (by rw [zA]; (try dsimp only [zF] at *); omega), ?_⟩
  refine z3 (σ := Nat × List Bool × List Bool) (fun x => ⟨[(2, .ptr 2 0), (6, .osl 12 1 (fun _ => 0) (fun _ => s.path.length)), (7, .osl 16 1 (fun _ => 0) (fun _ => s.lems.length)), (8, .int .i64 (fun _ => ((x.1 : Nat) : Int) - 1))], [(2, .box (sc s)), bao 12 x.2.1, bao 16 x.2.2]⟩)
    (fun x => x.1 ≤ s.lems.length ∧ G x.1 (x.2.1, x.2.2) = (RD, RM) ∧ x.2.1.length = s.path.length ∧ x.2.2.length = s.lems.length) (fun x => x.1) (s.lems.length, D1, M1) ⟨zZ _, hR.symm, hl1, hl2⟩ (.le ?_ okZ rfl) ?_
  · cbv; exact ⟨lR, lR, lR, zC (by rw [zA]), trivial⟩
  clear hR hl1 hl2
  intro x hx
  obtain ⟨n, D, M⟩ := x
  obtain ⟨g1, g2, g3, g4⟩ := hx
  dsimp only at g1 g2 g3 g4
  cbv
  refine zG (fun h5 => ?_) (fun h5 => ?_)
  · obtain ⟨k, rfl⟩ : ∃ k, n = k + 1 := ⟨n - 1, by (try dsimp only [zF] at *); omega⟩
    obtain ⟨m, hm⟩ := zT (l := s.lems) (i := k) oM
    have hpm := hpf m (yA hm)
    rw [hGs k m _ hm] at g2
    have c := cm m.pf (D, M) hpm (by dsimp only; omega) (by dsimp only; omega)
    have ml := hml m.pf (D, M)
    generalize X m.pf (D, M) = Y at *
    obtain ⟨D', M'⟩ := Y
    dsimp only at g2 c ml
    rw [g3, g4] at c
    cbv
    refine ⟨y9 om om, nY (p := bc) M rfl k om om lA zB4 (fun b hb => ?_)⟩
    have hb' : M.getD k false = b := by rw [uJ, hb]; rfl
    rw [hb'] at g2
    cbv
    refine zP (fun e => ?_) (fun e => ?_)
    · rw [if_pos e] at g2
      cbv
      refine pU (σ := Unit) (fun _ => ⟨[(2, .ptr 2 0), (6, .osl 12 1 (fun _ => 0) (fun _ => s.path.length)), (7, .osl 16 1 (fun _ => 0) (fun _ => s.lems.length)), (8, .int .i64 (fun _ => ((k + 1 : Nat) : Int) - 1))], [(2, .box (sc s)), bao 12 D', bao 16 M']⟩) (fun _ => True) (.refl _) (by cbv) ?_ ?_
      · cbv
        repeat' first
          | exact trivial
          | exact ⟨(), trivial, wkZ⟩
          | (refine ⟨y9 om om, nY (p := bc) M rfl k om om lA zB4 (fun b hb => ?_)⟩; cbv)
          | (refine xL hm rfl xX wJ ?_; cbv)
          | (refine xL hm om xX wJ ?_; cbv)
          | (refine y0 hnM0 (.refl _) rfl (by exact ⟨by repeat' first | exact trivial | exact lR | apply And.intro, lR, lR, lR, trivial⟩) c ⟨⟨rfl, rfl⟩, ⟨rfl, rfl⟩, trivial⟩ rfl rfl rfl rfl rfl rfl rfl rfl ?_; cbv)
          | apply And.intro
      · intro _ _
        cbv
        exact ⟨zD om om, (k, D', M'), ⟨(by show k ≤ _; omega), g2, (by show D'.length = _; omega), (by show M'.length = _; omega)⟩, om, wkZ⟩
    · rw [if_neg (by rw [e]; decide)] at g2
      cbv
      exact ⟨zD om om, (k, D, M), ⟨(by show k ≤ _; omega), g2, g3, g4⟩, om, wkZ⟩
  · have hn : n = 0 := by (try dsimp only [zF] at *); omega
    subst hn
    rw [hG0] at g2
    cases g2
    cbv
    refine yAK (fun n => match nqb n 100 with | true => 12 | false => 16) (.refl _) rfl ⟨⟨rfl, rfl⟩, ⟨rfl, rfl⟩, trivial⟩ rfl ?_
    cbv
    exact okA
theorem zPU (l:List Bool)(i:Nat)(h:i<l.length):((List.range (i+1)).filter fun k=>l.getD k false).map (fun k:Nat=>(k:Int))=((List.range i).filter fun k=>l.getD k false).map (fun k:Nat=>(k:Int))++(if l.getD i false=true then [(i:Int)] else []):=by rw[List.range_succ,List.filter_append,gE];congr 1;rw[List.filter_cons,List.filter_nil];by_cases hx:l.getD i false=true;{rw[if_pos hx,if_pos hx];rfl};{rw[if_neg hx,if_neg hx];rfl}
theorem zAQ (l:List Bool)(i:Nat):(((List.range i).filter fun k=>l.getD k false).map (fun k:Nat=>(k:Int))).length<=i:=by rw[xA];exact vD (List.length_filter_le _ _) (by simp)
theorem sKix (l:List Bool)(hl:l.length<2^38):zE 17 [.sl (fun _=>enc bc l)] (zlv (uY l)):=by
 refine sF Tryz.f17 ?_;obtain⟨J,hJ⟩:∃ J:Nat->List Int,∀ i,J i=((List.range i).filter fun k=>l.getD k false).map (fun k:Nat=>(k:Int)):=⟨_,fun _=>rfl⟩;have hJ0:J 0=[]:=by rw[hJ];rfl
 have hJs:∀ i,i<l.length->J (i+1)=J i++(if l.getD i false=true then [(i:Int)] else []):=fun i h=>by rw[hJ,hJ];exact zPU l i h
 have hJl:∀ i,(J i).length<=i:=fun i=>by rw[hJ];exact zAQ l i
 have hR:uY l=J l.length:=by rw[hJ];rfl
 rw[hR];clear hJ hR;cbv;refine z3 (σ:=Nat) (fun i=>⟨[(0,.sl (fun _=>enc bc l)),(3,.osl 3 1 (fun _=>0) (fun _=>(J i).length)),(4,.int .i64 (fun _=>(i:Int)))],[(3,.arr 1 (fun _=>enc ic (J i)))]⟩)
  (fun i=>i<=l.length) (fun i=>l.length-i) 0 (xD _) (.trans (.adoptT 3 1 3 rfl rfl) (.le ?_ ?_ rfl)) ?_
 {cbv;exact⟨lR,yC rfl (by rw[hJ0];rfl),lR,trivial⟩};{cbv;exact⟨zI (by rw[hJ0];rfl),trivial⟩};intro i hi;cbv;refine zG (fun h5=>?_) (fun h5=>?_)
 ·have hlt:=gU h5;obtain⟨b,hb⟩:=zT hlt;have hs:=hJs i hlt;have hln:=hJl i;rw[show l.getD i false=b by rw[uJ,hb];rfl] at hs;generalize hA:J i=A at *
  cbv;refine yX hb lA zB4 ?_;cbv;refine zP (fun e=>?_) (fun e=>?_);{rw[if_pos e] at hs;cbv;refine mT zYC rfl rfl rfl (by rw[zA]) rfl ⟨by simp[zS,wB]⟩ (yD (by simp[zS,zA] <;> omega) (by simp[zS,zA] at *;(try dsimp only [zF] at *);omega)) rfl ?_;cbv;refine⟨zD om om,i+1,(show i+1<=_ by omega),om,.le ?_ ?_ rfl⟩;{cbv;exact⟨lR,yC rfl (by rw[hs,zA];simp[zS]),zC om,trivial⟩};{cbv;exact⟨zI (by rw[hs,<-gI];rfl),trivial⟩}};{rw[if_neg (by rw[e];decide),uU] at hs;cbv;refine⟨zD om om,i+1,(show i+1<=_ by omega),om,.le ?_ ?_ rfl⟩;{cbv;exact⟨lR,yC rfl (by rw[hs]),zC om,trivial⟩};{cbv;exact⟨zI (by rw[hs]),trivial⟩}}
 ·have hi':=bJ h5 hi;subst hi';generalize J l.length=A at *
  cbv;refine tB _ (.trans (Wk.sel _ [2] [3] rfl) (.frz 3 rfl rfl ?_ ?_)) rfl ?_;{cbv;exact⟨z8 (by simp[zA]),trivial⟩};{cbv};cbv;exact zR (by rw[wC,yS (by simp[zA])])
theorem sKsi (a b:List Int)(ha:a.length<2^38)(hb:b.length<2^38):zE 16 [zlv a,zlv b] (.bool (fun _=>decide (a=b))):=by
 refine sF Tryz.f16 ?_;obtain⟨r,hr⟩:∃ r,decide (a=b)=r:=⟨_,rfl⟩;have h1:a.length≠b.length->r=false:=fun h=>by rw[<-hr];exact decide_eq_false fun e=>h (by rw[e])
 have h2:∀ (i:Nat) (x y:Int),a[i]?=some x->b[i]?=some y->x≠y->r=false:=fun i x y g1 g2 h=>by rw[<-hr];exact decide_eq_false fun e=>h (by rw[e,g2] at g1;exact (vN g1).symm)
 have h3:a.length=b.length->(∀ i:Nat,i<a.length->a[i]?=b[i]?)->r=true:=fun h h'=>by
  rw[<-hr];exact decide_eq_true (List.ext_getElem? fun i=>by
   by_cases hi:i<a.length;{exact h' i hi}
   ·rw[bE oM,bE oM])
 rw[hr];clear hr;cbv;refine zG (fun e=>?_) (fun e=>?_)
 rotate_left
 ·cbv
  (refine rC ?_;cbv)
  exact zM (h1 (by simp only[zA] at e;(try dsimp only [zF] at *);omega))
 have e':a.length=b.length:=by simp only[zA] at e;(try dsimp only [zF] at *);omega
 cbv;refine z3 (σ:=Nat) (fun i=>⟨[(0,zlv a),(1,zlv b),(5,.int .i64 (fun _=>(i:Int)))],[]⟩) (fun i=>i<=a.length/\∀ k,k<i->a[k]?=b[k]?) (fun i=>a.length-i) 0 ⟨xD _,fun k h=>absurd h oM⟩ (.le okZ trivial rfl) ?_;intro i hi;obtain⟨g1,g2⟩:=hi;cbv;refine zG (fun h5=>?_) (fun h5=>?_)
 ·have hlt:=gU h5;obtain⟨x,hx⟩:=zT hlt;obtain⟨y,hy⟩:=zT (l:=b) (i:=i) oM;have h2':=h2 i x y hx hy;cbv;refine zN 9 (by cbv) ?_;cbv;refine yX hx nW zB0 ?_;cbv;refine yX hy nW zB0 ?_;cbv;refine zG (fun e2=>?_) (fun e2=>?_)
  ·cbv;exact⟨zD om om,i+1,⟨om,fun k hk=>by
    by_cases hki:k=i;{subst hki;rw[hx,hy,e2]}
    ·exact g2 k oM⟩,om,.le okZ trivial rfl⟩
  ·cbv
   (refine rC ?_;cbv)
   exact zM (h2' e2)
 ·have hi:=bJ h5 g1;cbv
  (refine rC ?_;cbv)
  exact yN (h3 e' (by rw[<-hi];exact g2))
theorem hfK1:Pg.funcs[203]?=some Tryz.f203:=by rw[uV];rfl
theorem sK1 (r:Row):zE 203 [rwv r] (mlv (mR [(r,1)])):=by
 refine cH hfK1 rfl rfl rfl rfl rfl ?_;have c1:=s32 1 (by decide) (by decide);rw[show (((1:Int):Rat))=(1:Rat) by rfl] at c1;have hr:mR [(r,1)]=[⟨r,zJ 1⟩]:=rfl;generalize mR [(r,1)]=res at *
 generalize zJ 1=O at *
 cbv;refine zN 5 (by cbv) ?_;cbv;refine dA c1 ?_;cbv
 (refine rC ?_;cbv)
 exact zR (by rw[hr];rfl)
theorem sK1o (r:Row):Sound 203 [rwv r] [] [] (.osl 100 7 (fun _=>0) (fun _=>1)) [] (mao 100 (mR [(r,1)])):=by
 refine cH hfK1 rfl rfl rfl rfl rfl ?_;have c1:=s32 1 (by decide) (by decide);rw[show (((1:Int):Rat))=(1:Rat) by rfl] at c1;have hr:mR [(r,1)]=[⟨r,zJ 1⟩]:=rfl;generalize mR [(r,1)]=res at *
 generalize zJ 1=O at *
 subst hr;cbv;refine zN 2 (by cbv) ?_;cbv;refine dA c1 ?_;cbv;refine zWE rfl ?_;cbv;refine tC (ps':=⟨[(2,.osl 6 7 (fun _=>0) (fun _=>1))],[(6,.arr 7 (fun _=>enc mc [⟨r,O⟩]))]⟩) 6 (.le ?_ ?_ rfl) rfl rfl rfl ?_;{cbv;exact⟨yC rfl rfl,trivial⟩};{cbv;exact⟨zI rfl,trivial⟩};{cbv;exact lR}
theorem sKDd (s:Scp)(kind unit:Int)(hq:s.q.sz (2^31))(hs:Dsz (2^32) s.path)(hv:s.q.valid=true):zE 254 [sv s,.int .i64 (fun _=>kind),.int .i64 (fun _=>unit)] (.bool (fun _=>s.dcd kind unit)):=by
 refine sF Tryz.f254 ?_;have cf:∀ d,d∈s.path->zE 105 [qv s.q,dv d] (.bool (fun _=>d.fits s.q)):=fun d h=>by have:=zT1 s.q d hq (hs.sz d h);rw[hv,yU] at this;exact this
 have hpl:=hs.len;generalize hr:s.dcd kind unit=r;have hr0:r=(s.path.drop 0).any (fun d=>decide (d.k=kind)&&(decide (d.i=unit)&&d.fits s.q)):=hr.symm;obtain⟨ft,hft⟩:∃ ft:Dec->Bool,∀ d,ft d=d.fits s.q:=⟨_,fun _=>rfl⟩;simp only[<-hft] at cf hr0;obtain⟨P,hP⟩:∃ P:Dec->Bool,(fun d=>decide (d.k=kind)&&(decide (d.i=unit)&&ft d))=P:=⟨_,rfl⟩;rw[hP] at hr0;have hPd:∀ d,P d=(decide (d.k=kind)&&(decide (d.i=unit)&&ft d)):=fun d=>by rw[<-hP]
 clear hP hft hr hs hq hv;cbv;refine z3 (σ:=Nat) (fun i=>⟨[(1,.int .i64 (fun _=>kind)),(2,.int .i64 (fun _=>unit)),(3,.ptr 3 0),(7,.int .i64 (fun _=>(i:Int)))],[(3,.box (sc s))]⟩) (fun i=>i<=s.path.length/\r=(s.path.drop i).any P) (fun i=>s.path.length-i) 0 ⟨by omega,hr0⟩ (wkZ) ?_;clear hr0;intro i hi;obtain⟨h1,h2⟩:=hi;cbv;refine zG (fun h5=>?_) (fun h5=>?_)
 ·have hlt:=gU h5;obtain⟨d,hd⟩:=zT hlt;have cv:=cf d (yA hd);rw[zY hd,List.any_cons,hPd] at h2;generalize ft d=fd at *
  generalize hrest:(s.path.drop (i+1)).any P=rest at *
  cbv;refine zN 28 (by cbv) ?_;cbv;refine yX hd qM jH ?_;cbv;refine zQ (fun e1=>?_) (fun e1=>?_)
  rotate_left
  {rw[decide_eq_false e1,kJ,sI] at h2;cbv;exact⟨zD om om,i+1,⟨om,by rw[h2,hrest]⟩,om,wkZ⟩};rw[decide_eq_true e1,yU] at h2;cbv;refine yX hd qM jH ?_;cbv;refine zQ (fun e2=>?_) (fun e2=>?_)
  rotate_left
  {rw[decide_eq_false e2,kJ,sI] at h2;cbv;exact⟨zD om om,i+1,⟨om,by rw[h2,hrest]⟩,om,wkZ⟩};rw[decide_eq_true e2,yU] at h2;cbv;refine yX hd qM jH ?_;cbv;refine dA cv ?_;cbv;refine zP (fun e3=>?_) (fun e3=>?_)
  ·rw[e3,zLF] at h2;cbv
   (refine rC ?_;cbv)
   exact yN h2
  {rw[e3,sI] at h2;cbv;exact⟨zD om om,i+1,⟨om,by rw[h2,hrest]⟩,om,wkZ⟩}
 ·have he:=bJ h5 h1;rw[he,w4] at h2;have h2':r=false:=h2;cbv
  (refine rC ?_;cbv)
  exact zM h2'
structure Usz (s:Scp):Prop where
 q:s.q.sz (2^31)
 p:Dsz (2^32) s.path
 l:Lsz (2^20) s.lems
 v:s.q.valid=true
theorem zBO {s:Scp}{j:Int}(h:(s.best j).1≠0):∃ m,s.lems[(s.best j).1-1]?=some m/\s.vLo j=m.v.q:=by obtain⟨m,hm,_⟩:=dU (s:=s) (unit:=j) (.inl rfl) h;exact⟨m,hm,by unfold Scp.vLo qO;rw[hm];rfl⟩
theorem zE8 {s:Scp}{j:Int}(h:(s.best j).2≠0):∃ m,s.lems[(s.best j).2-1]?=some m/\s.vHi j=m.v.q:=by obtain⟨m,hm,_⟩:=dU (s:=s) (unit:=j) (.inr rfl) h;exact⟨m,hm,by unfold Scp.vHi qO;rw[hm];rfl⟩
theorem zWT (s:Scp)(j:Int)(hs:Usz s):zE 204 [sv s,.int .i64 (fun _=>j)] (.tup [rwv (s.offR j).1,.bool (fun _=>(s.offR j).2)]):=by
 refine sF Tryz.f204 ?_;have cb:=cK s j hs.l;have hll:=hs.l.len;have hss:=hs.l.sz;have cd:=sKDd s 2 j hs.q hs.p hs.v;have hv:=fun h=>zE8 (s:=s) (j:=j) h;obtain⟨R,hR⟩:∃ R,s.offR j=R:=⟨_,rfl⟩;have h1:s.dcd 2 j=true->R=(⟨10,j,0,0⟩,true):=fun h=>by rw[<-hR];unfold Scp.offR;rw[if_pos h]
 have h2:s.dcd 2 j=false->R=(⟨10,j,0,(s.best j).2⟩,decide (0<(s.best j).2)&&decide (z4 (s.vHi j)<=0)):=fun h=>by rw[<-hR];unfold Scp.offR;rw[if_neg (by rw[h];decide)]
 rw[hR];obtain⟨R,b⟩:=R;generalize s.dcd 2 j=dd at *
 generalize s.vHi j=x at *
 generalize s.best j=B at *
 obtain⟨b1,b2⟩:=B;dsimp only at *
 obtain⟨⟨⟨gn,us,os⟩,⟨lo,hi,rows⟩,⟨ts,c1',c2',c3'⟩⟩,path,L⟩:=s;dsimp only at *
 clear hR hs;cbv;refine cA cb ?_;cbv;refine cA cd ?_;cbv;refine zP (fun e=>?_) (fun e=>?_)
 ·obtain⟨q1,q2⟩:=iW (h1 e);subst q1 q2;cbv
  (refine rC ?_;cbv)
  exact okA
 obtain⟨q1,q2⟩:=iW (h2 e);subst q1 q2;cbv;refine zQ (fun e1=>?_) (fun e1=>?_)
 rotate_left
 ·cbv
  (refine rC ?_;cbv)
  exact⟨okA,zM (by simp;(try dsimp only [zF] at *);omega),trivial⟩
 have e1':b2≠0:=by (try dsimp only [zF] at *);omega
 obtain⟨m,g,hx⟩:=hv e1';have z:=hss m (yA g);have l2:=(wH.1 g).1;have csg:=s35 m.v (by have:=z.n;omega);rw[<-hx] at csg;generalize z4 x=sg at *
 cbv;refine⟨zD om om,xL g om xX wJ ?_⟩;cbv;refine cA csg ?_;cbv
 (refine rC ?_;cbv)
 exact⟨okA,zV (by simp;(try dsimp only [zF] at *);omega),trivial⟩
theorem sKOn (s:Scp)(j:Int)(hs:Usz s):zE 205 [sv s,.int .i64 (fun _=>j)] (.tup [rwv (s.onR j).1,.bool (fun _=>(s.onR j).2)]):=by
 refine sF Tryz.f205 ?_;have cb:=cK s j hs.l;have hll:=hs.l.len;have hss:=hs.l.sz;have cd:=sKDd s 1 j hs.q hs.p hs.v;have hv:=fun h=>zBO (s:=s) (j:=j) h;obtain⟨R,hR⟩:∃ R,s.onR j=R:=⟨_,rfl⟩;have h1:s.dcd 1 j=true->R=(⟨8,j,0,0⟩,true):=fun h=>by rw[<-hR];unfold Scp.onR;rw[if_pos h]
 have h2:s.dcd 1 j=false->R=(⟨8,j,(s.best j).1,0⟩,decide (0<(s.best j).1)&&decide (0<=z4 (s.vLo j))):=fun h=>by rw[<-hR];unfold Scp.onR;rw[if_neg (by rw[h];decide)]
 rw[hR];obtain⟨R,b⟩:=R;generalize s.dcd 1 j=dd at *
 generalize s.vLo j=x at *
 generalize s.best j=B at *
 obtain⟨b1,b2⟩:=B;dsimp only at *
 obtain⟨⟨⟨gn,us,os⟩,⟨lo,hi,rows⟩,⟨ts,c1',c2',c3'⟩⟩,path,L⟩:=s;dsimp only at *
 clear hR hs;cbv;refine cA cb ?_;cbv;refine cA cd ?_;cbv;refine zP (fun e=>?_) (fun e=>?_)
 ·obtain⟨q1,q2⟩:=iW (h1 e);subst q1 q2;cbv
  (refine rC ?_;cbv)
  exact okA
 obtain⟨q1,q2⟩:=iW (h2 e);subst q1 q2;cbv;refine zQ (fun e1=>?_) (fun e1=>?_)
 rotate_left
 ·cbv
  (refine rC ?_;cbv)
  exact⟨okA,zM (by simp;(try dsimp only [zF] at *);omega),trivial⟩
 have e1':b1≠0:=by (try dsimp only [zF] at *);omega
 obtain⟨m,g,hx⟩:=hv e1';have z:=hss m (yA g);have l2:=(wH.1 g).1;have csg:=s35 m.v (by have:=z.n;omega);rw[<-hx] at csg;generalize z4 x=sg at *
 cbv;refine⟨zD om om,xL g om xX wJ ?_⟩;cbv;refine cA csg ?_;cbv
 (refine rC ?_;cbv)
 exact⟨okA,zV (by simp;(try dsimp only [zF] at *);omega),trivial⟩
abbrev bdv (b:Bd) (h:Bool):PV:=.agg [.bool (fun _=>b.1.neg),nat b.1.num,nat b.1.den,mlv (mR b.2),.bool (fun _=>h)]
theorem sKle (s:Scp)(j:Int)(hs:Usz s):zE 172 [sv s,.int .i64 (fun _=>j)] (bdv (s.leB j) true):=by
 refine sF Tryz.f172 ?_;have cb:=cK s j hs.l;have hll:=hs.l.len;have hss:=hs.l.sz;have hv:=fun h=>zBO (s:=s) (j:=j) h;have c5:=sK1 ⟨5,j,0,0⟩;have c6:=sK1o ⟨6,j,0,0⟩;obtain⟨R,hR⟩:∃ R,s.leB j=R:=⟨_,rfl⟩;have h1:((s.best j).1=0\/z4 (s.vLo j)<=0)->R=(R0,[(⟨5,j,0,0⟩,1)]):=fun h=>by rw[<-hR];unfold Scp.leB;rw[if_pos h]
 have h2:¬((s.best j).1=0\/z4 (s.vLo j)<=0)->R=(zJ (s.vLo j),[(⟨6,j,0,0⟩,1),(⟨11,j,(s.best j).1,0⟩,1)]):=fun h=>by rw[<-hR];unfold Scp.leB;rw[if_neg h]
 unfold bdv;rw[hR];obtain⟨V,P⟩:=R;dsimp only;generalize s.vLo j=x at *
 generalize s.best j=B at *
 obtain⟨b1,b2⟩:=B;dsimp only at *
 have c11:=sK1o ⟨11,j,b1,0⟩;obtain⟨M,hM⟩:∃ M,mR P=M:=⟨_,rfl⟩;obtain⟨M5,hM5⟩:∃ M,mR [((⟨5,j,0,0⟩:Row),(1:Rat))]=M:=⟨_,rfl⟩;obtain⟨M6,hM6⟩:∃ M,mR [((⟨6,j,0,0⟩:Row),(1:Rat))]=M:=⟨_,rfl⟩;obtain⟨M11,hM11⟩:∃ M,mR [((⟨11,j,b1,0⟩:Row),(1:Rat))]=M:=⟨_,rfl⟩;have k1:(b1=0\/z4 x<=0)->V=R0/\M=M5:=fun h=>by obtain⟨q1,q2⟩:=iW (h1 h);exact⟨q1,by rw[<-hM,q2,hM5]⟩
 have k2:¬(b1=0\/z4 x<=0)->V=zJ x/\M=M6++M11:=fun h=>by obtain⟨q1,q2⟩:=iW (h2 h);exact⟨q1,by rw[<-hM,q2,<-hM6,<-hM11];rfl⟩
 have l6:M6.length=1:=by rw[<-hM6];rfl
 have l11:M11.length=1:=by rw[<-hM11];rfl
 simp only[hM,hM5,hM6,hM11] at *
 clear h1 h2 hM hM5 hM6 hM11;obtain⟨⟨⟨gn,us,os⟩,⟨lo,hi,rows⟩,⟨ts,c1',c2',c3'⟩⟩,path,L⟩:=s;dsimp only at *
 clear hR hs;cbv;refine cA cb ?_;cbv;refine zQ (fun e1=>?_) (fun e1=>?_)
 ·obtain⟨q1,q2⟩:=k1 (.inl om);subst q1 q2;cbv;refine cA c5 ?_;cbv
  (refine rC ?_;cbv)
  exact okA
 have e1':b1≠0:=by (try dsimp only [zF] at *);omega
 obtain⟨m,g,hx⟩:=hv e1';have z:=hss m (yA g);have l2:=(wH.1 g).1;have csg:=s35 m.v (by have:=z.n;omega);have ccn:=s47 m.v (z.mono (by decide));rw[<-hx] at csg ccn;generalize z4 x=sg at *
 generalize zJ x=RX at *
 cbv;refine⟨zD om om,xL g om xX wJ ?_⟩;cbv;refine cA csg ?_;cbv;refine zG (fun e2=>?_) (fun e2=>?_)
 ·obtain⟨q1,q2⟩:=k1 (.inr e2);subst q1 q2;cbv;refine cA c5 ?_;cbv
  (refine rC ?_;cbv)
  exact okA
 obtain⟨q1,q2⟩:=k2 (fun h=>h.elim e1' e2);subst q1 q2;cbv;refine y0 (fun _=>201) (.refl _) rfl okA c6 trivial rfl rfl rfl rfl rfl rfl rfl rfl ?_;cbv;refine y0 (fun _=>202) (.refl _) rfl okA c11 trivial rfl rfl rfl rfl rfl rfl rfl rfl ?_;cbv;refine zKX fJ rfl rfl rfl (by simp[zA,l6]) rfl rfl rfl (by simp[zA,l11]) (w6 wA _) (yD (by simp[zA,l6,l11]) (by simp[zA,l6,l11])) rfl ?_;cbv;refine⟨zD om om,xL g om xX wJ ?_⟩;cbv;refine cA ccn ?_;cbv;refine tB _ (.trans (Wk.sel _ [4] [4,39] rfl) (.frz 39 rfl rfl ?_ ?_)) rfl ?_;{cbv};{cbv;exact⟨⟨z8 (by simp),trivial⟩,trivial⟩};cbv;exact⟨lR,lR,lR,zR (by rw[wC,yS (by simp),gI]),yN rfl,trivial⟩
end Go.Proofs.YtaeaffgjdcigoaaGreat
