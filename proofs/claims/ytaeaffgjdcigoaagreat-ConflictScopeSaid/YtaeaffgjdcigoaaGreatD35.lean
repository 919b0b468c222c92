/- A part of the proof: KcG, KcI, KcL, KcM, KcR. -/
import Derived.Test.YtaeaffgjdcigoaaGreatD32
import Derived.Test.YtaeaffgjdcigoaaGreatD22
import Derived.Test.YtaeaffgjdcigoaaGreatD21
import Derived.Test.YtaeaffgjdcigoaaGreatD31
import Derived.Test.YtaeaffgjdcigoaaGreatD25
import Derived.Test.YtaeaffgjdcigoaaGreatD33
set_option linter.all false
namespace Go.Proofs.YtaeaffgjdcigoaaGreat
open Go
set_option maxRecDepth 100000
set_option maxHeartbeats 4000000
abbrev kfO (s:Scp) (kind unit:Int):List (Nat×Obj'):=[(1000000,.box [iV kind]),(1000001,.box [iV unit]),(1000002,.box (sc s))]
abbrev Pv (s:Scp) (kind unit:Int) (d:Dec):Bool:=decide (d.k=kind)&&(decide (d.i=unit)&&d.fits s.q)
def Nw (s:Scp)(kind unit:Int)(d:Dec)(hs:Psz s)(hd:d.x.sz (2^32)):Sound 121 [dv d,.ptr 1000000 0,.ptr 1000001 0,.ptr 1000002 0] (kfO s kind unit) [] (bV (Pv s kind unit d)) (kfO s kind unit) []:=by
 refine sF Tryz.f121 ?_;have cv:=Hr s.q d (hs.q.mono (by decide)) (hd.mono (by decide));rw[hs.v,yL] at cv;obtain⟨r,hr⟩:=ex (Pv s kind unit d);have hr':(decide (d.k=kind)&&(decide (d.i=unit)&&d.fits s.q))=r:=hr;rw[hr];generalize d.fits s.q=ft at *;clear hs hr hd;cbv;refine zO (λe1=>?_) (λe1=>?_)
 rotate_left
 {rw[decide_eq_false e1,qF] at hr';subst hr';cbv;refine rY (.refl _) rfl (by repeat' first|exact trivial|exact rfl|apply And.intro) (by rfl) (by repeat' first|exact trivial|exact rfl|omega|apply And.intro) ?_;cbv;exact zK rfl};rw[decide_eq_true e1,yL] at hr';cbv;refine zO (λe2=>?_) (λe2=>?_)
 rotate_left
 {rw[decide_eq_false e2,qF] at hr';subst hr';cbv;refine rY (.refl _) rfl (by repeat' first|exact trivial|exact rfl|apply And.intro) (by rfl) (by repeat' first|exact trivial|exact rfl|omega|apply And.intro) ?_;cbv;exact zK rfl};rw[decide_eq_true e2,yL] at hr';cbv;refine cA cv ?_;cbv;refine rY (.refl _) rfl (by repeat' first|exact trivial|exact rfl|apply And.intro) (by rfl) (by repeat' first|exact trivial|exact rfl|omega|apply And.intro) ?_;cbv;exact zX hr'
abbrev H6:PV:=.fn 121 [.ptr 1000000 0,.ptr 1000001 0,.ptr 1000002 0]
def Nx (s:Scp)(kind unit:Int)(hs:Psz s):Sound 120 [dlv s.path,H6] (kfO s kind unit) [] (iV (s.fst kind unit)) (kfO s kind unit) []:=by
 refine aC Cb rfl rfl rfl rfl rfl ?_;have cp:=λd (h:d∈s.path)=>Nw s kind unit d hs (hs.p.sz d h);have hpl:=hs.p.len;obtain⟨r,hr⟩:=ex (s.fst kind unit);obtain⟨P,hP⟩:∃ P:Dec->Bool,Pv s kind unit=P:=⟨_,rfl⟩;have hr0:r=oN P 0 (s.path.drop 0):=by rw[Zx,<-hP];exact hr.symm
 rw[hr];rw[hP] at cp;obtain⟨X,hX⟩:∃ X:Int->List Dec->Int,∀ i l,X i l=oN P i l:=⟨_,λ_ _=>rfl⟩;have hXn:∀ i,X i []=-1:=λi=>by rw[hX];rfl
 have hXc:∀ i d r,X i (d::r)=if P d=true then i else X (i+1) r:=λi d r=>by grind [Zy]
 rw[<-hX] at hr0;clear hP hr hs hX;cbv;refine zW (σ:=Nat) (λi=>⟨[(0,dlv s.path),(1,H6),(7,iV s.path.length),(8,iV i)],kfO s kind unit⟩) (λi=>i<=s.path.length/\r=X i (s.path.drop i)) (λi=>s.path.length-i) 0 ⟨by omega,hr0⟩ (.le ?_ ?_ rfl) ?_;{cbv;repeat' first|exact trivial|exact lR|exact rfl|exact zB (by rw[zA])|apply And.intro};{cbv;repeat' first|exact trivial|exact lR|apply And.intro};clear hr0;intro i hi;obtain⟨h1,h2⟩:=hi;cbv;refine zE (λh5=>?_) (λh5=>?_)
 ·(have hlt:i<s.path.length:=by exact om);obtain⟨d,hd⟩:=zQ hlt
  have cv:=cp d (z8 hd);rw[zT hd,hXc] at h2;generalize P d=p at *;cbv;refine yE hd vN qE ?_;cbv;refine cZ id (.refl _) rfl (by repeat' first|exact trivial|exact lR|exact zB rfl|exact rfl|apply And.intro) cv (by repeat' first|exact trivial|exact lR|exact zB rfl|exact rfl|apply And.intro) rfl rfl rfl rfl rfl rfl rfl rfl ?_;cbv;refine zN (λe=>?_) (λe=>?_);{rw[if_pos e] at h2;cbv;refine rY (.refl _) rfl (by repeat' first|exact trivial|exact rfl|apply And.intro) (by rfl) (by repeat' first|exact trivial|exact rfl|omega|apply And.intro) ?_;cbv;exact zB h2.symm};{rw[if_neg (by grind)] at h2;cbv;exact⟨zC om om,i+1,⟨om,h2⟩,om,.le (by cbv;repeat' first|exact trivial|exact lR|exact rfl|exact zB om|apply And.intro) (by cbv;repeat' first|exact trivial|exact lR|apply And.intro) rfl⟩}
 ·(have he:i=s.path.length:=by exact om);rw[he,x8,hXn] at h2
  cbv;refine rY (.refl _) rfl (by repeat' first|exact trivial|exact rfl|apply And.intro) (by rfl) (by repeat' first|exact trivial|exact rfl|omega|apply And.intro) ?_;cbv;exact zB h2.symm
def TD (s:Scp)(kind unit:Int)(hs:Psz s):zD 55 [sv s,iV kind,iV unit] (iV (s.fst kind unit)):=by refine sF Tryz.f55 ?_;have ci:=Nx s kind unit hs;clear hs;cbv;refine cZ (λn=>match nqb n 1000000 with|true=>4|false=>(match nqb n 1000001 with|true=>5|false=>3)) (.refl _) rfl (by repeat' first|exact trivial|exact lR|exact zB rfl|exact rfl|apply And.intro) ci (by repeat' first|exact trivial|exact lR|exact zB rfl|exact rfl|apply And.intro) rfl rfl rfl rfl rfl rfl rfl rfl ?_;cbv;exact rA
abbrev mpO (ks:List Int):Obj':=.mp 119 (λ_=>ks)
def JN {z:Int}(h1:-9223372036854775808<=z)(h2:z<=9223372036854775807):KeyOk (λ_=>z):=⟨by simp only[Lit.wf,yZ,decide_eq_true_eq];exact⟨h1,h2⟩⟩
abbrev uO (s:Scp) (st:Ust):List (Nat×Obj'):=[(1000000,.box (sc s)),(1000001,.box [.mpv 1000005]),(1000002,.box [.mpv 1000004]),(1000003,.box [.fn 54 [.ptr 1000006 0,.ptr 1000000 0,.ptr 1000007 0]]),
 (1000004,mpO st.1),(1000005,mpO st.2),(1000006,.box [.fn 53 [.ptr 1000002 0]]),(1000007,.box [.fn 52 [.ptr 1000000 0,.ptr 1000001 0,.ptr 1000003 0]])]
def NE (d:Int)(D:List Int)(h1:-9223372036854775808<=d)(h2:d<=9223372036854775807)(hD:D.length<2^39):Sound 53 [iV d,.ptr 1000002 0] [(1000002,.box [.mpv 1000004]),(1000004,mpO D)] [] (.tup []) [(1000002,.box [.mpv 1000004]),(1000004,mpO (cG d D))] []:=by
 refine sF Tryz.f53 ?_;obtain⟨R,hR⟩:=ex (cG d D);have hR':R=if 0<=d then d::D else D:=hR.symm
 rw[hR];clear hR;cbv;refine zE (λe=>?_) (λe=>?_);{rw[if_pos e] at hR';subst hR';cbv;refine⟨JN h1 h2,⟨by omega⟩,?_⟩;cbv;refine rY (.refl _) rfl (by repeat' first|exact trivial|exact rfl|apply And.intro) (by rfl) (by repeat' first|exact trivial|exact rfl|omega|apply And.intro) ?_;cbv};{rw[if_neg e] at hR';subst hR';cbv;refine rY (.refl _) rfl (by repeat' first|exact trivial|exact rfl|apply And.intro) (by rfl) (by repeat' first|exact trivial|exact rfl|omega|apply And.intro) ?_;cbv}
abbrev Fz (s:Scp) (l:List Mult) (a b:Ust):Prop:=Sound 54 [mlv l,.ptr 1000006 0,.ptr 1000000 0,.ptr 1000007 0] (uO s a) [] (.tup []) (uO s b) []
def Np (s:Scp)(U:List Mult->Ust->Ust)(n:Int)(st:Ust)(h1:-9223372036854775808<=n)(h2:n<=9223372036854775807)(hM:st.2.length<2^39) (cU:0<=n->n<s.lems.length->n∉st.2->Fz s (s.pfn n) (st.1,n::st.2) (U (s.pfn n) (st.1,n::st.2))):Sound 52 [iV n,.ptr 1000000 0,.ptr 1000001 0,.ptr 1000003 0] (uO s st) [] (.tup []) (uO s (fT s U n st)) []:=by
 refine sF Tryz.f52 ?_;obtain⟨R,hR⟩:=ex (fT s U n st);have hR':R=if 0<=n/\n<s.lems.length/\n∉st.2 then U (s.pfn n) (st.1,n::st.2) else st:=hR.symm
 rw[hR];clear hR;obtain⟨D,M⟩:=st;dsimp only at hR' cU hM;cbv;refine zO (λe1=>?_) (λe1=>?_)
 rotate_left
 {rw[if_neg (λh=>e1 h.1)] at hR';subst hR';cbv;refine rY (.refl _) rfl (by repeat' first|exact trivial|exact rfl|apply And.intro) (by rfl) (by repeat' first|exact trivial|exact rfl|omega|apply And.intro) ?_;cbv};cbv;refine zO (λe2=>?_) (λe2=>?_)
 rotate_left
 {rw[if_neg (λh=>e2 (by grind [zA]))] at hR';subst hR';cbv;refine rY (.refl _) rfl (by repeat' first|exact trivial|exact rfl|apply And.intro) (by rfl) (by repeat' first|exact trivial|exact rfl|omega|apply And.intro) ?_;cbv};rw[zA] at e2;cbv;refine⟨JN h1 h2,?_⟩;cbv;refine zN (λe3=>?_) (λe3=>?_);{rw[if_neg (λh=>h.2.2 (of_decide_eq_true e3))] at hR';subst hR';cbv;refine rY (.refl _) rfl (by repeat' first|exact trivial|exact rfl|apply And.intro) (by rfl) (by repeat' first|exact trivial|exact rfl|omega|apply And.intro) ?_;cbv};have e3':n∉M:=of_decide_eq_false e3;rw[if_pos ⟨e1,e2,e3'⟩] at hR';have c:=cU e1 e2 e3';rw[<-hR'] at c;obtain⟨m,hm⟩:=zQ (l:=s.lems) (i:=n.toNat) (by exact om);have hp:s.pfn n=m.pf:=by unfold Scp.pfn;rw[hm];rfl
 rw[hp] at c;obtain⟨D',M'⟩:=R;clear hR' cU hp;cbv;refine⟨JN h1 h2,⟨by grind⟩,?_⟩;cbv;refine zL 7 (by cbv) ?_;cbv;refine xG hm (by exact om) yR y4 ?_;cbv;refine cZ id (.refl _) rfl (by repeat' first|exact trivial|exact lR|exact zB rfl|exact rfl|apply And.intro) c (by repeat' first|exact trivial|exact lR|exact zB rfl|exact rfl|apply And.intro) rfl rfl rfl rfl rfl rfl rfl rfl ?_;cbv;refine rY (.refl _) rfl (by repeat' first|exact trivial|exact rfl|apply And.intro) (by rfl) (by repeat' first|exact trivial|exact rfl|omega|apply And.intro) ?_;cbv
def Rsm (r:Row):Prop:=(-4611686018427387904<=r.i/\r.i<4611686018427387904)/\(-4611686018427387904<=r.lo/\r.lo<4611686018427387904)/\(-4611686018427387904<=r.hi/\r.hi<4611686018427387904)
def oK {α:Type}(P:α->Bool):∀ l:List α,uF P l<=l.length
 |[]=>by show (-1:Int)<=((0:Nat):Int);decide| a::r=>by have:=oK P r;have h:=bQ P r;rw[show uF P (a::r)=if P a then 0 else if uF P r<0 then -1 else uF P r+1 from rfl,cX];omega
def Ag {s:Scp}{r:Row}(h:Rsm r)(hp:s.path.length<2^38):-9223372036854775808<=s.rowD r/\s.rowD r<=9223372036854775807:=by have h1:=bQ (λd=>decide (d.k=1)&&(decide (d.i=r.i)&&d.fits s.q)) s.path;have h2:=bQ (λd=>decide (d.k=2)&&(decide (d.i=r.i)&&d.fits s.q)) s.path;have g1:=oK (λd=>decide (d.k=1)&&(decide (d.i=r.i)&&d.fits s.q)) s.path;have g2:=oK (λd=>decide (d.k=2)&&(decide (d.i=r.i)&&d.fits s.q)) s.path;obtain⟨⟨a1,a2⟩,_⟩:=h;grind [Scp.rowD,Scp.fst]
def M4 (s : Scp) (U : List Mult → Ust → Ust) (l : List Mult) (st : Ust) (hs : Psz s) (hl : l.length < 2^38) (hr : ∀ m, m ∈ l → Rsm m.row) (Q : Nat → Ust → Prop) (h0 : Q 0 st)
    (hQ : ∀ i a, Q i a → a.1.length < 2^39 ∧ a.2.length < 2^39)
    (hS : ∀ i m a, l[i]? = some m → Q i a → ∀ n, (n = m.row.lo - 1 ∨ n = m.row.hi - 1) → Rsm m.row → ∀ b, (b = (cG (s.rowD m.row) a.1, a.2) ∨ b = fT s U (m.row.lo - 1) (cG (s.rowD m.row) a.1, a.2)) →
      Sound 52 [iV n, .ptr 1000000 0, .ptr 1000001 0, .ptr 1000003 0] (uO s b) [] (.tup []) (uO s (fT s U n b)) [])
    (hN : ∀ i m a, l[i]? = some m → Q i a → Q (i + 1) (fT s U (m.row.hi - 1) (fT s U (m.row.lo - 1) (cG (s.rowD m.row) a.1, a.2)))) :
    Fz s l st (Zf s U l st) := by
  refine sF Tryz.f54 ?_
  have hpl := hs.p.len
  have c1 := fun unit => TD s 1 unit hs
  have c2 := fun unit => TD s 2 unit hs
  have hrd : ∀ r, s.rowD r = if r.k = 4 then r.i else if (r.k = 7 ∨ r.k = 8) ∧ r.lo = 0 then s.fst 1 r.i else if (r.k = 9 ∨ r.k = 10) ∧ r.hi = 0 then s.fst 2 r.i else -1 := fun _ => rfl
  have hsm := fun r h => Ag (s := s) (r := r) h hpl
  obtain ⟨R, hR⟩ := ex (Zf s U l st)
  rw [hR]
  obtain ⟨X, hX⟩ : ∃ X : List Mult → Ust → Ust, Zf s U = X := ⟨_, rfl⟩
  obtain ⟨LS, hLS⟩ : ∃ LS : Int → Ust → Ust, fT s U = LS := ⟨_, rfl⟩
  have hXn : ∀ a, X [] a = a := fun a => by rw [← hX]; rfl
  have hXc : ∀ m r a, X (m :: r) a = X r (LS (m.row.hi - 1) (LS (m.row.lo - 1) (cG (s.rowD m.row) a.1, a.2))) := fun m r a => by rw [← hX, ← hLS]; rfl
  rw [hX] at hR
  rw [hLS] at hS hN
  clear hX hLS hs
  cbv
  refine zW (σ := Nat × List Int × List Int) (fun x => ⟨[(1, .ptr 1000006 0), (2, .ptr 1000000 0), (3, .ptr 1000007 0), (8, mlv l), (9, iV l.length), (10, iV x.1)], uO s (x.2.1, x.2.2)⟩)
    (fun x => x.1 ≤ l.length ∧ X (l.drop x.1) (x.2.1, x.2.2) = R ∧ Q x.1 (x.2.1, x.2.2)) (fun x => l.length - x.1) (0, st.1, st.2) ⟨yY _, hR, h0⟩ (.le (by cbv; repeat' first | exact trivial | exact lR | exact rfl | exact zB (by rw [zA]) | apply And.intro) (by cbv; repeat' first | exact trivial | exact lR | exact rfl | exact ⟨rfl⟩ | apply And.intro) rfl) ?_
  clear hR h0
  intro x hx
  obtain ⟨i, D, M⟩ := x
  obtain ⟨g1, g2, g3⟩ := hx
  dsimp only at g1 g2 g3
  cbv
  refine zE (fun h5 => ?_) (fun h5 => ?_)
  · have hlt : i < l.length := by exact om
    obtain ⟨m, hm⟩ := zQ hlt
    rw [zT hm, hXc] at g2
    have hrm := hr m (z8 hm)
    obtain ⟨q1, q2⟩ := hQ i (D, M) g3
    have cl := hS i m (D, M) hm g3
    have nx := hN i m (D, M) hm g3
    obtain ⟨⟨k, ri, lo, hi⟩, mc'⟩ := m
    dsimp only at g2 q1 q2 cl nx hrm
    have hd := hrd ⟨k, ri, lo, hi⟩
    have hds := hsm ⟨k, ri, lo, hi⟩ hrm
    generalize s.rowD ⟨k, ri, lo, hi⟩ = d at *
    obtain ⟨⟨r1, r2⟩, ⟨r3, r4⟩, ⟨r5, r6⟩⟩ := hrm
    dsimp only at hd r1 r2 r3 r4 r5 r6
    have cd := NE d D hds.1 hds.2 oM
    have d1 := c1 ri
    have d2 := c2 ri
    generalize s.fst 1 ri = f1 at *
    generalize s.fst 2 ri = f2 at *
    obtain ⟨D0, hD0⟩ := ex (cG d D)
    have hn1 : d = -1 → D = D0 := fun e => by rw [← hD0, e]; rfl
    rw [hD0] at cd cl nx g2
    obtain ⟨b1, hb1⟩ := ex (LS (lo - 1) (D0, M))
    have e1 := cl (lo - 1) (.inl rfl) ⟨⟨r1, r2⟩, ⟨r3, r4⟩, ⟨r5, r6⟩⟩ (D0, M) (.inl rfl)
    have e2 := cl (hi - 1) (.inr rfl) ⟨⟨r1, r2⟩, ⟨r3, r4⟩, ⟨r5, r6⟩⟩ b1 (.inr hb1.symm)
    rw [hb1] at e1 nx g2
    obtain ⟨b2, hb2⟩ := ex (LS (hi - 1) b1)
    rw [hb2] at e2 nx g2
    obtain ⟨D1, M1⟩ := b1
    obtain ⟨D2, M2⟩ := b2
    clear hS hN hQ hr hrd hsm hXn hXc c1 c2 cl hb1 hb2 hD0
    cbv
    refine yE hm wM xI ?_
    cbv
    refine fM (σ := Unit) (fun _ => ⟨[(1, .ptr 1000006 0), (2, .ptr 1000000 0), (3, .ptr 1000007 0), (7, .ptr 7 0), (8, mlv l), (9, iV l.length), (10, iV i)], uO s (D0, M) ++ [(7, .box [iV k, iV ri, iV lo, iV hi])]⟩) (fun _ => True) (fun e => ?_) (fun e => ?_) (fun _ _ => ?_)
    · rw [if_pos e] at hd
      subst hd
      cbv
      refine cZ id (.refl _) rfl (by repeat' first | exact trivial | exact lR | exact zB rfl | exact rfl | apply And.intro) cd (by repeat' first | exact trivial | exact lR | exact zB rfl | exact rfl | apply And.intro) rfl rfl rfl rfl rfl rfl rfl rfl ?_
      cbv
      exact ⟨(), trivial, .le (by cbv; repeat' first | exact trivial | exact lR | exact rfl | exact zB om | apply And.intro) (by cbv; repeat' first | exact trivial | exact lR | exact zG rfl | exact rfl | exact ⟨rfl⟩ | apply And.intro) rfl⟩
    · rw [if_neg e] at hd
      cbv
      repeat' first
        | exact trivial
        | (exfalso; exact om)
        | (refine zO (fun x => ?_) (fun x => ?_) <;> cbv)
        | (refine zE (fun x => ?_) (fun x => ?_) <;> cbv)
        | (have gk : (k = 7 ∨ k = 8) ∧ lo = 0 := by exact om
           rw [if_pos gk] at hd
           subst hd
           refine zL 5 (by cbv) ?_
           cbv
           refine dA d1 ?_
           cbv
           refine cZ id (.refl _) rfl (by repeat' first | exact trivial | exact lR | exact zB rfl | exact rfl | apply And.intro) cd (by repeat' first | exact trivial | exact lR | exact zB rfl | exact rfl | apply And.intro) rfl rfl rfl rfl rfl rfl rfl rfl ?_
           cbv
           exact ⟨(), trivial, .le (by cbv; repeat' first | exact trivial | exact lR | exact rfl | exact zB om | apply And.intro) (by cbv; repeat' first | exact trivial | exact lR | exact zG rfl | exact rfl | exact ⟨rfl⟩ | apply And.intro) rfl⟩)
        | (have gk : ¬ ((k = 7 ∨ k = 8) ∧ lo = 0) := by exact om
           have gl : (k = 9 ∨ k = 10) ∧ hi = 0 := by exact om
           rw [if_neg gk, if_pos gl] at hd
           subst hd
           refine zL 5 (by cbv) ?_
           cbv
           refine dA d2 ?_
           cbv
           refine cZ id (.refl _) rfl (by repeat' first | exact trivial | exact lR | exact zB rfl | exact rfl | apply And.intro) cd (by repeat' first | exact trivial | exact lR | exact zB rfl | exact rfl | apply And.intro) rfl rfl rfl rfl rfl rfl rfl rfl ?_
           cbv
           exact ⟨(), trivial, .le (by cbv; repeat' first | exact trivial | exact lR | exact rfl | exact zB om | apply And.intro) (by cbv; repeat' first | exact trivial | exact lR | exact zG rfl | exact rfl | exact ⟨rfl⟩ | apply And.intro) rfl⟩)
        | (have gk : ¬ ((k = 7 ∨ k = 8) ∧ lo = 0) := by exact om
           have gl : ¬ ((k = 9 ∨ k = 10) ∧ hi = 0) := by exact om
           rw [if_neg gk, if_neg gl] at hd
           have hN0 := hn1 hd
           exact ⟨(), trivial, .le (by cbv; repeat' first | exact trivial | exact lR | exact rfl | exact zB om | apply And.intro) (by cbv; repeat' first | exact trivial | exact lR | exact zG rfl | exact rfl | exact ⟨rfl⟩ | exact ⟨hN0⟩ | apply And.intro) rfl⟩)
    · cbv
      refine ⟨zC om om, ?_⟩
      cbv
      refine cZ id (.refl _) rfl (by repeat' first | exact trivial | exact lR | exact zB rfl | exact rfl | apply And.intro) e1 (by repeat' first | exact trivial | exact lR | exact zB rfl | exact rfl | apply And.intro) rfl rfl rfl rfl rfl rfl rfl rfl ?_
      cbv
      refine ⟨zC om om, ?_⟩
      cbv
      refine cZ id (.refl _) rfl (by repeat' first | exact trivial | exact lR | exact zB rfl | exact rfl | apply And.intro) e2 (by repeat' first | exact trivial | exact lR | exact zB rfl | exact rfl | apply And.intro) rfl rfl rfl rfl rfl rfl rfl rfl ?_
      cbv
      exact ⟨zC om om, (i + 1, D2, M2), ⟨om, g2, nx⟩, om, .le (by cbv; repeat' first | exact trivial | exact lR | exact rfl | exact zB om | apply And.intro) (by cbv; repeat' first | exact trivial | exact lR | exact zG rfl | exact rfl | exact ⟨rfl⟩ | apply And.intro) rfl⟩
  · have he : i = l.length := by exact om
    rw [he, x8, hXn] at g2
    subst g2
    cbv
    refine rY (.refl _) rfl (by repeat' first | exact trivial | exact rfl | apply And.intro) (by rfl) (by repeat' first | exact trivial | exact rfl | omega | apply And.intro) ?_
    cbv
structure UseOk (s:Scp) (l:List Mult) (st:Ust):Prop where
 len:l.length<2^38
 row:∀ m,m∈l->Rsm m.row
 wgt:wgt s st+l.length<2^39
 vol:vol s st<2^39
structure Lpf (s:Scp):Prop where
 len:∀ m,m∈s.lems->m.pf.length<2^38
 row:∀ m,m∈s.lems->∀ x,x∈m.pf->Rsm x.row
def A4 (s:Scp)(U:List Mult->Ust->Ust)(f:Nat)(hs:Psz s)(hp:Lpf s)(hR:∀ l a,um s a.2<f->Run s l a (U l a))(hW:∀ l a,um s a.2<f->wgt s (U l a)<=wgt s a+l.length)(hV:∀ l a,um s a.2<f->vol s (U l a)=vol s a) (hC:∀ l st,um s st.2<f->UseOk s l st->Fz s l st (U l st)) (l:List Mult) (st:Ust) (hf:um s st.2<=f) (h:UseOk s l st):Fz s l st (Zf s U l st):=by
 have key:∀ i m (a:Ust),l[i]?=some m->(um s a.2<=f/\wgt s a+(l.length-i)<=wgt s st+l.length/\vol s a=vol s st)->∀ b,(b=(cG (s.rowD m.row) a.1,a.2)\/b=fT s U (m.row.lo-1) (cG (s.rowD m.row) a.1,a.2)) ->
   um s b.2<=f/\wgt s b+(l.length-(i+1))<=wgt s st+l.length/\vol s b=vol s st:=by
  (intro i m a hm hq b hb;obtain⟨q1,q2,q3⟩:=hq;have hi:i<l.length:=(vV.1 hm).1;have u1:um s ((cG (s.rowD m.row) a.1,a.2):Ust).2<=f:=q1;have w1:wgt s (cG (s.rowD m.row) a.1,a.2)<=wgt s a+1:=by have:=Kq (s.rowD m.row) a.1;show (cG _ _).length+pot s a.2<=a.1.length+pot s a.2+1;omega);have o1:vol s (cG (s.rowD m.row) a.1,a.2)=vol s a:=rfl;rcases hb with rfl|rfl;{exact⟨u1,by omega,by omega⟩}
  {have w2:=oF hW (n:=m.row.lo-1) u1;have o2:=oG hV (n:=m.row.lo-1) u1;exact⟨Yo hR u1,by omega,by omega⟩}
 refine M4 s U l st hs h.len h.row (λi a=>um s a.2<=f/\wgt s a+(l.length-i)<=wgt s st+l.length/\vol s a=vol s st) ⟨hf,by omega,rfl⟩ ?_ ?_ ?_;{intro i a hq;obtain⟨q1,q2,q3⟩:=hq;have hw:=h.wgt;have hv:=h.vol;have e1:wgt s a=a.1.length+pot s a.2:=rfl;have e2:vol s a=a.2.length+um s a.2:=rfl;exact⟨by omega,by omega⟩}
 ·(intro i m a hm hq n hn hr b hb;obtain⟨q1,q2,q3⟩:=key i m a hm hq b hb;obtain⟨_,⟨r1,r2⟩,⟨r3,r4⟩⟩:=hr;have hw:=h.wgt;have hv:=h.vol;have e2:vol s b=b.2.length+um s b.2:=rfl;refine Np s U n b (by rcases hn with rfl|rfl <;> omega) (by rcases hn with rfl|rfl <;> omega) oM (λg0 g1 g2=>?_);have hu:=VZ g0 g1 g2;have hpt:=HE g0 g1 g2;obtain⟨x,hx⟩:=zQ (l:=s.lems) (i:=n.toNat) oM;have hpn:s.pfn n=x.pf:=by unfold Scp.pfn;rw[hx];rfl);have hxm:=z8 hx
  have e1:wgt s b=b.1.length+pot s b.2:=rfl;have e3:wgt s (b.1,n::b.2)=b.1.length+pot s (n::b.2):=rfl;have e4:vol s (b.1,n::b.2)=(n::b.2).length+um s (n::b.2):=rfl;rw[cX] at e4;exact hC _ _ (by show um s (n::b.2)<f;omega) ⟨by rw[hpn];exact hp.len x hxm,by rw[hpn];exact hp.row x hxm,by omega,by omega⟩
 {intro i m a hm hq;obtain⟨q1,q2,q3⟩:=key i m a hm hq _ (.inr rfl);have w2:=oF hW (n:=m.row.hi-1) q1;have o2:=oG hV (n:=m.row.hi-1) q1;exact⟨Yo hR q1,by omega,by omega⟩}
def Tf (s:Scp)(hs:Psz s)(hp:Lpf s):∀ (f:Nat) (l:List Mult) (st:Ust),um s st.2<=f->UseOk s l st->Fz s l st (sN s f l st)
 |0,l,st,hf,h=>A4 s (λ_ st=>st) 0 hs hp (λ_ _ h=>absurd h oM) (λ_ _ h=>absurd h oM) (λ_ _ h=>absurd h oM) (λ_ _ h=>absurd h oM) l st hf h| f+1,l,st,hf,h=>A4 s (sN s f) (f+1) hs hp (λl a h=>tU s f l a oM) (λl a h=>YF s f l a oM) (λl a h=>YG s f l a oM) (λl st h h'=>Tf s hs hp f l st oM h') l st hf h
def T9 {rs:List ResultVar}{r:PV}{ps ps':PS}{kept made:List (Nat×Obj')}(hn:Nat->Nat)(hw:Wk ps ps')(h3:lv r=true)(h4:uJ hn ps'.objs (kept++made))(h5:ndO (z7 hn (kept++made))=true)(h6:XC hn kept)(h:match fS ps' rs with
  |some l=>les (mC l) (ren hn r)| none=>False):RetOk rs r kept made ps:=by
 cases h1:fS ps' rs with
 |none=>rw[h1] at h;exact h.elim| some l=>rw[h1] at h;exact⟨ps',l,hn,hw,h1,dF h,h3,h4,h5,h6⟩
abbrev D3 (n:Nat):PV:=.fn 125 [.ptr n 0]
def TC (ks:List Int):Sound 57 [.mpv 1000000] [(1000000,mpO ks)] [] (D3 1) [(1000000,mpO ks)] [(1,.box [.mpv 1000000])]:=by
 refine sF Tryz.f57 ?_;cbv;refine T9 (λn=>n) (.refl _) rfl (by repeat' first|exact trivial|exact rfl|apply And.intro) (by rfl) (by repeat' first|exact trivial|exact rfl|omega|apply And.intro) ?_;cbv
 repeat' first|exact trivial|exact lR|exact rfl|apply And.intro
abbrev KV:Prop:=∀ ks:List Int,ks.length<2^40->(∀ z,z∈ks->-9223372036854775808<=z/\z<=9223372036854775807)->Sound 56 [D3 1000001] [(1000000,mpO ks),(1000001,.box [.mpv 1000000])] [] (zlv (jK ks)) [(1000000,mpO ks),(1000001,.box [.mpv 1000000])] []
def Sf:MapOk 119:=⟨3,4,by rw[uQ];rfl,by rw[uQ];rfl,by rw[uQ];rfl,by cbv⟩
def usH (n:Nat):Nat:=match nqb n 1000000 with
 |true=>2
 |false=>match nqb n 1000001 with
  |true=>7
  |false=>match nqb n 1000002 with
   |true=>6
   |false=>match nqb n 1000003 with
    |true=>8
    |false=>match nqb n 1000004 with
     |true=>11
     |false=>match nqb n 1000005 with
      |true=>12
      |false=>match nqb n 1000006 with
       |true=>10| false=>9
def M8 (h56 : KV) (s : Scp) (l : List Mult) (hs : Psz s) (hp : Lpf s) (h : UseOk s l ([], [])) (hz : ∀ z, (z ∈ (sN s s.lems.length l ([], [])).1 ∨ z ∈ (sN s s.lems.length l ([], [])).2) → -9223372036854775808 ≤ z ∧ z ≤ 9223372036854775807) (hl : (sN s s.lems.length l ([], [])).1.length < 2^40 ∧ (sN s s.lems.length l ([], [])).2.length < 2^40) (hu : um s [] ≤ s.lems.length) :
    zD 14 [sv s, mlv l] (.tup [zlv (jK (sN s s.lems.length l ([], [])).1), zlv (jK (sN s s.lems.length l ([], [])).2)]) := by
  refine sF Tryz.f14 ?_
  have cu := Tf s hs hp s.lems.length l ([], []) hu h
  obtain ⟨R, hR⟩ := ex (sN s s.lems.length l ([], []))
  rw [hR] at cu hz hl ⊢
  obtain ⟨D, M⟩ := R
  dsimp only at hz hl ⊢
  have k1 := TC D
  have k2 := TC M
  have s1 := h56 D hl.1 (fun z g => hz z (.inl g))
  have s2 := h56 M hl.2 (fun z g => hz z (.inr g))
  generalize jK D = SD at *
  generalize jK M = SM at *
  clear hR hz hl hs hp h hu h56
  cbv
  refine ⟨Sf, Sf, ?_⟩
  cbv
  refine cZ usH (.refl _) rfl (by repeat' first | exact trivial | exact lR | exact zB rfl | exact rfl | apply And.intro) cu (by repeat' first | exact trivial | exact lR | exact zB rfl | exact rfl | apply And.intro) rfl rfl rfl rfl rfl rfl rfl rfl ?_
  cbv
  refine s4 (σ := Unit) (fun _ => ⟨[(4, zlv SD), (5, zlv SM)], []⟩) (fun _ => True) (.refl _) (by cbv) ?_ ?_
  · cbv
    repeat' first
      | exact trivial
      | (refine cZ Mv (.refl _) rfl ?_ k1 ?_ rfl rfl rfl rfl rfl rfl rfl rfl ?_
         · repeat' first | exact trivial | exact lR | exact rfl | apply And.intro
         · repeat' first | exact trivial | exact lR | exact rfl | apply And.intro
         cbv)
      | (refine cZ Mu (.refl _) rfl ?_ k2 ?_ rfl rfl rfl rfl rfl rfl rfl rfl ?_
         · repeat' first | exact trivial | exact lR | exact rfl | apply And.intro
         · repeat' first | exact trivial | exact lR | exact rfl | apply And.intro
         cbv)
      | (refine cZ Mv (.refl _) rfl ?_ s1 ?_ rfl rfl rfl rfl rfl rfl rfl rfl ?_
         · repeat' first | exact trivial | exact lR | exact rfl | apply And.intro
         · repeat' first | exact trivial | exact lR | exact rfl | apply And.intro
         cbv)
      | (refine cZ Mu (.refl _) rfl ?_ s2 ?_ rfl rfl rfl rfl rfl rfl rfl rfl ?_
         · repeat' first | exact trivial | exact lR | exact rfl | apply And.intro
         · repeat' first | exact trivial | exact lR | exact rfl | apply And.intro
         cbv)
      | exact ⟨(), trivial, .le (by cbv; exact okA) trivial rfl⟩
      | apply And.intro
  · intro _ _
    cbv
    exact rA
def FK:KV:=λks h1 h2=>Qz ks h1 h2
abbrev y5:=Int×Bool
def ltc (l:y5):List PV:=[iV l.1,bV l.2]
abbrev ltv (l:y5):PV:=.agg [iV l.1,bV l.2]
abbrev qR (l:List y5):PV:=.sl (λ_=>enc ltc l)
def x5 (l:y5):yT qS (ltc l)=true:=rfl
def wT (l:y5):(ltc l).length=2:=rfl
abbrev Lp (s : String) (o b : Nat) : Field := { name := s, type := 4, offset := o, embedded := false, tag := "", pkgPath := "", byteOffset := b }
def Aw:Pg.underlying 83=some (.struct (Pg.fieldsOf 83)):=by rw[uQ];kernel_rfl
def DU : (Pg.fieldsOf 83).toList = [fld "Unit" 0 0, Lp "On" 1 8] := by rw [uQ]; kernel_rfl
def DT:Pg.stoodInHeld 83=false:=by rw[uQ];simp_all
theorem Vy:Pg.eqGuardType Pg.depth 83=false:=by rw[uQ];simp_all
def J0:Pg.plainKey 4=true:=by rw[uQ];kernel_rfl
def CR:Pg.underlying 4=some .bool:=by rw[uQ];simp_all
abbrev Yc (a:y5):Array Value:=#[.int .i64 a.1,.bool a.2]
theorem Vz (a b:y5)(w:World):(Op.equalIn 10000 83 (.agg (Yc a)) (.agg (Yc b))).run Pg w=.ok (decide (a=b)) w:=by
 rw[show (10000:Nat)=9999+1 from rfl,run_equalIn_agg w 9999 _ _ _ Aw DT,DU];have p0:∀ (c:y5),(part 3 (Yc c) 0).run Pg w=.ok (.int .i64 c.1) w:=λc=>run_part_plain _ pI rfl;have p1:∀ (c:y5),(part 4 (Yc c) 1).run Pg w=.ok (.bool c.2) w:=λc=>run_part_plain _ J0 rfl;have q:∀ (x y:Int),(Op.equalIn 9999 3 (.int .i64 x) (.int .i64 y)).run Pg w=.ok (x == y) w:=λx y=>run_equalIn_int w 9998 _ .i64 .i64 x y H0;have q2:∀ (x y:Bool),(Op.equalIn 9999 4 (.bool x) (.bool y)).run Pg w=.ok (x == y) w:=λx y=>run_equalIn_bool w 9998 _ x y CR;have e:decide (a=b)=((a.1 == b.1)&&(a.2 == b.2)):=by grind
 rw[e];simp only[Op.eqFields,Sem.run_bind,Sem.run_ite,p0,p1,q,q2,Result.andThen_ok,Sem.run_pure];grind
def U0 {x y:Operand}{a b:y5}{K:PV->Prop}(hK:K (bV (decide (a=b)))):EqS .eql 83 x y [.i λ_=>a.1,.b λ_=>a.2] [.i λ_=>b.1,.b λ_=>b.2] K:=by refine⟨⟨decide (a=b),λw=>?_,hK⟩⟩;show (do eqGuard .eql 83 x y (.agg (Yc a)) (.agg (Yc b));binOp .eql 83 (.agg (Yc a)) (.agg (Yc b)):Sem Value).run Pg w=_;grind [Sem.run_bind,run_eqGuard_agg,Vy,Result.andThen_ok,run_eql_struct,Vz]
def DL {x y:Operand}{a b:y5}{K:PV->Prop}(hK:K (bV (!(decide (a=b))))):EqS .neq 83 x y [.i λ_=>a.1,.b λ_=>a.2] [.i λ_=>b.1,.b λ_=>b.2] K:=by refine⟨⟨!(decide (a=b)),λw=>?_,hK⟩⟩;show (do eqGuard .neq 83 x y (.agg (Yc a)) (.agg (Yc b));binOp .neq 83 (.agg (Yc a)) (.agg (Yc b)):Sem Value).run Pg w=_;grind [Sem.run_bind,run_eqGuard_agg,Vy,Result.andThen_ok,run_neq_struct,Vz]
def TB (l:y5):zD 67 [ltv l] (ltv (l.1,!l.2)):=by
 refine sF Tryz.f67 ?_;obtain⟨u,b⟩:=l;cbv
 (refine rC ?_;cbv)
 exact⟨lR,vF rfl,trivial⟩
def Tz (l:y5):zD 74 [ltv l] (ltv (l.1,!l.2)):=by
 refine sF Tryz.f74 ?_;obtain⟨u,b⟩:=l;cbv
 (refine rC ?_;cbv)
 exact⟨lR,vF rfl,trivial⟩
def pF (d:Dec):Option y5:=if d.k=1\/d.k=2 then some (d.i,decide (d.k=1)) else none
def Nr (d : Dec) : zD 73 [dv d] (.tup [ltv ((pF d).getD (0, false)), bV ((pF d).isSome)]) := by
  refine sF Tryz.f73 ?_
  obtain ⟨V, hV⟩ := ex (((pF d).getD (0, false)).1)
  obtain ⟨B, hB⟩ := ex (((pF d).getD (0, false)).2)
  obtain ⟨S, hS⟩ := ex ((pF d).isSome)
  have k1 : (d.k = 1 ∨ d.k = 2) → V = d.i ∧ B = decide (d.k = 1) ∧ S = true := fun h => by rw [← hV, ← hB, ← hS]; unfold pF; grind
  have k2 : ¬ (d.k = 1 ∨ d.k = 2) → V = 0 ∧ B = false ∧ S = false := fun h => by rw [← hV, ← hB, ← hS]; unfold pF; grind
  unfold ltv
  rw [hV, hB, hS]
  obtain ⟨k, i, x⟩ := d
  dsimp only at *
  clear hV hB hS
  cbv
  repeat' first
    | (refine zO (fun e => ?_) (fun e => ?_) <;> cbv)
    | (refine zE (fun e => ?_) (fun e => ?_) <;> cbv)
    | (have g : k = 1 ∨ k = 2 := by (exact om)
       obtain ⟨q1, q2, q3⟩ := k1 g
       subst q1 q2 q3
       (refine rC ?_; cbv)
       exact okA)
    | (have g : ¬ (k = 1 ∨ k = 2) := by (exact om)
       obtain ⟨q1, q2, q3⟩ := k2 g
       subst q1 q2 q3
       (refine rC ?_; cbv)
       exact okA)
def M7 (d:Dec):zD 140 [dv d] (bV (decide (d.k=1\/d.k=2))):=by
 refine sF Tryz.f140 ?_;obtain⟨k,i,x⟩:=d;cbv;refine zO (λe=>?_) (λe=>?_)
 ·cbv
  (refine rC ?_;cbv)
  exact yJ (decide_eq_true (.inl e))
 ·cbv
  (refine rC ?_;cbv)
  exact zX (by grind)
def Ns (d:Dec):zD 66 [dv d] (.tup [ltv ((pF d).getD (0,false)),bV ((pF d).isSome)]):=by
 refine sF Tryz.f66 ?_;have cu:=M7 d;obtain⟨V,hV⟩:=ex (((pF d).getD (0,false)).1);obtain⟨B,hB⟩:=ex (((pF d).getD (0,false)).2);obtain⟨S,hS⟩:=ex ((pF d).isSome);have k1:(d.k=1\/d.k=2)->V=d.i/\B=decide (d.k=1)/\S=true:=λh=>by rw[<-hV,<-hB,<-hS];unfold pF;grind
 have k2:¬(d.k=1\/d.k=2)->V=0/\B=false/\S=false:=λh=>by rw[<-hV,<-hB,<-hS];unfold pF;grind
 unfold ltv;rw[hV,hB,hS];obtain⟨k,i,x⟩:=d;dsimp only at *;clear hV hB hS;cbv;refine cA cu ?_;cbv;refine zN (λe=>?_) (λe=>?_);{obtain⟨q1,q2,q3⟩:=k1 (of_decide_eq_true e);subst q1 q2 q3;cbv;exact rA};{obtain⟨q1,q2,q3⟩:=k2 (of_decide_eq_false e);subst q1 q2 q3;cbv;exact rA}
def NF (l:y5):zD 92 [ltv l] (dv ⟨if l.2=true then 1 else 2,l.1,R0⟩):=by
 refine sF Tryz.f92 ?_;obtain⟨u,b⟩:=l;cbv;refine zN (λe=>?_) (λe=>?_)
 ·cbv
  (refine rC ?_;cbv)
  exact⟨zB (by grind),lR,zK rfl,yQ rfl,yQ rfl,trivial⟩
 ·cbv
  (refine rC ?_;cbv)
  exact⟨zB (by grind),lR,zK rfl,yQ rfl,yQ rfl,trivial⟩
def NG (l:y5):zD 91 [ltv l] (dv ⟨if l.2=true then 1 else 2,l.1,R0⟩):=by
 refine sF Tryz.f91 ?_;obtain⟨u,b⟩:=l;cbv;refine zN (λe=>?_) (λe=>?_)
 ·cbv
  (refine rC ?_;cbv)
  exact⟨zB (by grind),lR,zK rfl,yQ rfl,yQ rfl,trivial⟩
 ·cbv
  (refine rC ?_;cbv)
  exact⟨zB (by grind),lR,zK rfl,yQ rfl,yQ rfl,trivial⟩
def Nv (c:List y5)(x:y5)(hc:c.length<2^38):zD 192 [qR c,ltv x] (bV (decide (x∈c))):=by
 refine sF Tryz.f192 ?_;obtain⟨r,hr⟩:=ex (decide (x∈c));have hr0:r=decide (x∈c.drop 0):=hr.symm;rw[hr];obtain⟨D,hD⟩:∃ D:List y5->Bool,∀ l,D l=decide (x∈l):=⟨_,λ_=>rfl⟩;have hDn:D []=false:=by grind
 have hDc:∀ a l,D (a::l)=(decide (a=x) || D l):=λa l=>by grind
 rw[<-hD] at hr0;clear hr hD;obtain⟨xu,xb⟩:=x;cbv;refine zW (σ:=Nat) (λi=>⟨[(0,qR c),(3,.ptr 3 0),(5,iV i)],[(3,.box [iV xu,bV xb])]⟩) (λi=>i<=c.length/\r=D (c.drop i)) (λi=>c.length-i) 0 ⟨yY _,hr0⟩ (wkZ) ?_;clear hr0;intro i hi;obtain⟨g1,g2⟩:=hi;cbv;refine zE (λh5=>?_) (λh5=>?_)
 ·have hlt:=vL h5;obtain⟨a,ha⟩:=zQ hlt;rw[zT ha,hDc] at g2;obtain⟨au,ab⟩:=a;cbv;refine zL 6 (by cbv) ?_;cbv;refine yE ha x5 wT ?_;cbv;refine U0 (a:=(au,ab)) (b:=(xu,xb)) ?_;generalize decide (((au,ab):y5)=(xu,xb))=q at *;cbv;refine zN (λe=>?_) (λe=>?_)
  ·rw[e,Wp] at g2;cbv
   (refine rC ?_;cbv)
   exact yJ g2
  {rw[e,sI] at g2;cbv;exact⟨zC om om,i+1,⟨om,g2⟩,om,wkZ⟩}
 ·have he:=qD h5 g1;rw[he,x8,hDn] at g2;cbv
  (refine rC ?_;cbv)
  exact zK g2
def NH (a b:List y5)(ha:a.length<2^38)(hb:b.length<2^38):zD 77 [qR a,qR b] (bV (decide (a=b))):=by
 refine sF Tryz.f77 ?_;obtain⟨r,hr⟩:=ex (decide (a=b));have h1:a.length≠b.length->r=false:=λh=>by grind
 have h2:∀ (i:Nat) (x y:y5),a[i]?=some x->b[i]?=some y->x≠y->r=false:=λi x y g1 g2 h=>by grind
 have h3:a.length=b.length->(∀ i:Nat,i<a.length->a[i]?=b[i]?)->r=true:=λh h'=>by rw[<-hr];exact decide_eq_true (List.ext_getElem? λi=>by grind)
 rw[hr];clear hr;cbv;refine zE (λe=>?_) (λe=>?_)
 rotate_left
 ·cbv
  (refine rC ?_;cbv)
  exact zK (h1 (by simp only[zA] at e;exact om))
 have e':a.length=b.length:=by simp only[zA] at e;exact om
 cbv;refine zW (σ:=Nat) (λi=>⟨[(0,qR a),(1,qR b),(5,iV i)],[]⟩) (λi=>i<=a.length/\∀ k,k<i->a[k]?=b[k]?) (λi=>a.length-i) 0 ⟨yY _,λk h=>absurd h oM⟩ (.le okZ trivial rfl) ?_;intro i hi;obtain⟨g1,g2⟩:=hi;cbv;refine zE (λh5=>?_) (λh5=>?_)
 ·have hlt:=vL h5;obtain⟨x,hx⟩:=zQ hlt;obtain⟨y,hy⟩:=zQ (l:=b) (i:=i) oM;have h2':=h2 i x y hx hy;obtain⟨xu,xb⟩:=x;obtain⟨yu,yb⟩:=y;cbv;refine zL 9 (by cbv) ?_;cbv;refine yE hx x5 wT ?_;cbv;refine yE hy x5 wT ?_;cbv;refine DL (a:=(xu,xb)) (b:=(yu,yb)) ?_;cbv;refine zN (λe2=>?_) (λe2=>?_)
  ·(have e3:((xu,xb):y5)≠(yu,yb):=λh=>by grind);cbv
   (refine rC ?_;cbv)
   exact zK (h2' e3)
  ·(have e3:((xu,xb):y5)=(yu,yb):=by grind);cbv
   exact⟨zC om om,i+1,⟨om,λk hk=>by grind⟩,om,.le okZ trivial rfl⟩
 ·have hi:=qD h5 g1;cbv
  (refine rC ?_;cbv)
  exact yJ (h3 e' (by grind))
def clG:Option Int->List y5->Bool
 |_,[]=>true| p,a::r=>decide (0<=a.1/\a.1<1024/\(p.all λq=>decide (q<a.1))=true)&&clG (some a.1) r
def pB (c:List y5) (i:Nat):Option Int:=if i=0 then none else (c[i-1]?).map Prod.fst
def Ku {c:List y5}{i:Nat}{a:y5}(h:c[i]?=some a):∃ pb:Int,((a.1<0\/1024<=a.1\/(i≠0/\a.1<=pb))->clG (pB c i) (c.drop i)=false) /\ ((0<=a.1/\a.1<1024/\(i=0\/pb<a.1))->clG (pB c i) (c.drop i)=clG (pB c (i+1)) (c.drop (i+1)))/\(i≠0->∃ bb,c[i-1]?=some (pb,bb)):=by
 have hn:pB c (i+1)=some a.1:=by unfold pB;grind
 rw[hn,zT h];by_cases h0:i=0;{subst h0;refine⟨0,λg=>?_,λg=>?_,λg=>absurd rfl g⟩;{show (decide _&&_)=false;grind};{show (decide _&&_)=_;rw[decide_eq_true ⟨g.1,g.2.1,rfl⟩];rfl}}
 ·(have hi:i<c.length:=(vV.1 h).1;obtain⟨⟨pb,bb⟩,hb⟩:=zQ (l:=c) (i:=i-1) oM;have hp:pB c i=some pb:=by unfold pB;grind);rw[hp]
  refine⟨pb,λg=>?_,λg=>?_,λ_=>⟨bb,hb⟩⟩;{show (decide _&&_)=false;grind};{show (decide _&&_)=_;grind}
def MZ (c : List y5) (hc : c.length < 2^38) : zD 82 [qR c] (bV (clG none c)) := by
  refine sF Tryz.f82 ?_
  obtain ⟨r, hr⟩ := ex (clG none c)
  have hr0 : r = clG (pB c 0) (c.drop 0) := hr.symm
  rw [hr]
  obtain ⟨G, hG⟩ : ∃ G : Nat → Bool, ∀ i, G i = clG (pB c i) (c.drop i) := ⟨_, fun _ => rfl⟩
  rw [← hG] at hr0
  have hGn : G c.length = true := by rw [hG, x8]; cases pB c c.length <;> rfl
  have key := fun i a (h : c[i]? = some a) => Ku h
  simp only [← hG] at key
  clear hr hG
  cbv
  refine zW (σ := Nat) (fun i => ⟨[(0, qR c), (3, iV i)], []⟩) (fun i => i ≤ c.length ∧ r = G i) (fun i => c.length - i) 0 ⟨yY _, hr0⟩ (.le (by cbv; repeat' first | exact trivial | exact lR | exact zB (by rw [zA]) | apply And.intro) trivial rfl) ?_
  clear hr0
  intro i hi
  obtain ⟨g1, g2⟩ := hi
  cbv
  refine zE (fun h5 => ?_) (fun h5 => ?_)
  · have hlt : i < c.length := by (try rw [zA] at h5); exact om
    obtain ⟨a, ha⟩ := zQ hlt
    obtain ⟨pb, k1, k2, hb⟩ := key i a ha
    rw [← g2] at k1 k2
    clear key
    obtain ⟨au, ab⟩ := a
    dsimp only at k1 k2 hb
    cbv
    refine zL 32 (by cbv) ?_
    cbv
    repeat' first
      | (refine zO (fun x => ?_) (fun x => ?_) <;> cbv)
      | (refine zE (fun x => ?_) (fun x => ?_) <;> cbv)
      | (refine yE ha x5 wT ?_; cbv)
      | (have hz : i ≠ 0 := by (exact om)
         obtain ⟨bb, hb'⟩ := hb hz
         refine ⟨zC om om, xG hb' (by exact om) x5 wT ?_⟩
         cbv)
      | (have g : au < 0 ∨ 1024 ≤ au ∨ (i ≠ 0 ∧ au ≤ pb) := by (exact om)
         have g' := k1 g
         (refine rC ?_; cbv)
         exact zK g')
      | (have g : 0 ≤ au ∧ au < 1024 ∧ (i = 0 ∨ pb < au) := by (exact om)
         have g' := k2 g
         exact ⟨zC om om, i + 1, ⟨(show i + 1 ≤ _ by omega), g'⟩, om, .le (by cbv; repeat' first | exact trivial | exact lR | exact zB om | apply And.intro) trivial rfl⟩)
  · have he : i = c.length := by (try rw [zA] at h5); exact om
    rw [he, hGn] at g2
    cbv
    (refine rC ?_; cbv)
    exact yJ g2
def Tx (c : List y5) (hc : c.length < 2^38) : zD 81 [qR c] (bV (clG none c)) := by
  refine sF Tryz.f81 ?_
  obtain ⟨r, hr⟩ := ex (clG none c)
  have hr0 : r = clG (pB c 0) (c.drop 0) := hr.symm
  rw [hr]
  obtain ⟨G, hG⟩ : ∃ G : Nat → Bool, ∀ i, G i = clG (pB c i) (c.drop i) := ⟨_, fun _ => rfl⟩
  rw [← hG] at hr0
  have hGn : G c.length = true := by rw [hG, x8]; cases pB c c.length <;> rfl
  have key := fun i a (h : c[i]? = some a) => Ku h
  simp only [← hG] at key
  clear hr hG
  cbv
  refine zW (σ := Nat) (fun i => ⟨[(0, qR c), (5, qR c), (6, iV c.length), (7, iV i)], []⟩) (fun i => i ≤ c.length ∧ r = G i) (fun i => c.length - i) 0 ⟨yY _, hr0⟩ (.le (by cbv; repeat' first | exact trivial | exact lR | exact zB (by rw [zA]) | apply And.intro) trivial rfl) ?_
  clear hr0
  intro i hi
  obtain ⟨g1, g2⟩ := hi
  cbv
  refine zE (fun h5 => ?_) (fun h5 => ?_)
  · have hlt : i < c.length := by (try rw [zA] at h5); exact om
    obtain ⟨a, ha⟩ := zQ hlt
    obtain ⟨pb, k1, k2, hb⟩ := key i a ha
    rw [← g2] at k1 k2
    clear key
    obtain ⟨au, ab⟩ := a
    dsimp only at k1 k2 hb
    cbv
    refine yE ha x5 wT ?_
    cbv
    refine zL 23 (by cbv) ?_
    cbv
    repeat' first
      | (refine zO (fun x => ?_) (fun x => ?_) <;> cbv)
      | (refine zE (fun x => ?_) (fun x => ?_) <;> cbv)
      | (refine yE ha x5 wT ?_; cbv)
      | (have hz : i ≠ 0 := by (exact om)
         obtain ⟨bb, hb'⟩ := hb hz
         refine ⟨zC om om, xG hb' (by exact om) x5 wT ?_⟩
         cbv)
      | (have g : au < 0 ∨ 1024 ≤ au ∨ (i ≠ 0 ∧ au ≤ pb) := by (exact om)
         have g' := k1 g
         (refine rC ?_; cbv)
         exact zK g')
      | (have g : 0 ≤ au ∧ au < 1024 ∧ (i = 0 ∨ pb < au) := by (exact om)
         have g' := k2 g
         exact ⟨zC om om, i + 1, ⟨(show i + 1 ≤ _ by omega), g'⟩, om, .le (by cbv; repeat' first | exact trivial | exact lR | exact zB om | apply And.intro) trivial rfl⟩)
  · have he : i = c.length := by (try rw [zA] at h5); exact om
    rw [he, hGn] at g2
    cbv
    (refine rC ?_; cbv)
    exact yJ g2

end Go.Proofs.YtaeaffgjdcigoaaGreat
