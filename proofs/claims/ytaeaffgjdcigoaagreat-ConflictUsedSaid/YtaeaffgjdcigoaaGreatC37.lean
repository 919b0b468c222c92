/- A part of the proof: KcG, KcI, KcL, KcM, KcP, KcQ. -/
import Derived.Test.YtaeaffgjdcigoaaGreatC34
import Derived.Test.YtaeaffgjdcigoaaGreatC22
import Derived.Test.YtaeaffgjdcigoaaGreatC21
import Derived.Test.YtaeaffgjdcigoaaGreatC33
import Derived.Test.YtaeaffgjdcigoaaGreatC26
import Derived.Test.YtaeaffgjdcigoaaGreatC27
import Derived.Test.YtaeaffgjdcigoaaGreatC30
set_option linter.all false
namespace Go.Proofs.YtaeaffgjdcigoaaGreat
open Go
set_option maxRecDepth 100000
set_option maxHeartbeats 4000000
abbrev kfO (s:Scp) (kind unit:Int):List (Nat×Obj'):=[(1000000,.box [.int .i64 (fun _=>kind)]),(1000001,.box [.int .i64 (fun _=>unit)]),(1000002,.box (sc s))]
abbrev fstP (s:Scp) (kind unit:Int) (d:Dec):Bool:=decide (d.k=kind)&&(decide (d.i=unit)&&d.fits s.q)
theorem sKfp (s:Scp)(kind unit:Int)(d:Dec)(hs:Psz s)(hd:d.x.sz (2^32)):Sound 121 [dv d,.ptr 1000000 0,.ptr 1000001 0,.ptr 1000002 0] (kfO s kind unit) [] (.bool (fun _=>fstP s kind unit d)) (kfO s kind unit) []:=by
 refine sF Tryz.f121 ?_;have cv:=zNZ s.q d (hs.q.mono (by decide)) (hd.mono (by decide));rw[hs.v,yU] at cv;obtain⟨r,hr⟩:∃ r,fstP s kind unit d=r:=⟨_,rfl⟩;have hr':(decide (d.k=kind)&&(decide (d.i=unit)&&d.fits s.q))=r:=hr;rw[hr];generalize d.fits s.q=ft at *
 clear hs hr hd;cbv;refine zQ (fun e1=>?_) (fun e1=>?_)
 rotate_left
 {rw[decide_eq_false e1,kJ] at hr';subst hr';cbv;refine rJ (.refl _) rfl (by repeat' first|exact trivial|exact rfl|apply And.intro) (by rfl) (by repeat' first|exact trivial|exact rfl|omega|apply And.intro) ?_;cbv;exact zM rfl};rw[decide_eq_true e1,yU] at hr';cbv;refine zQ (fun e2=>?_) (fun e2=>?_)
 rotate_left
 {rw[decide_eq_false e2,kJ] at hr';subst hr';cbv;refine rJ (.refl _) rfl (by repeat' first|exact trivial|exact rfl|apply And.intro) (by rfl) (by repeat' first|exact trivial|exact rfl|omega|apply And.intro) ?_;cbv;exact zM rfl};rw[decide_eq_true e2,yU] at hr';cbv;refine cA cv ?_;cbv;refine rJ (.refl _) rfl (by repeat' first|exact trivial|exact rfl|apply And.intro) (by rfl) (by repeat' first|exact trivial|exact rfl|omega|apply And.intro) ?_;cbv;exact zV hr'
abbrev zOR:PV:=.fn 121 [.ptr 1000000 0,.ptr 1000001 0,.ptr 1000002 0]
theorem sKfi (s:Scp)(kind unit:Int)(hs:Psz s):Sound 120 [dlv s.path,zOR] (kfO s kind unit) [] (.int .i64 (fun _=>s.fst kind unit)) (kfO s kind unit) []:=by
 refine cH zTC rfl rfl rfl rfl rfl ?_;have cp:=fun d (h:d∈s.path)=>sKfp s kind unit d hs (hs.p.sz d h);have hpl:=hs.p.len;obtain⟨r,hr⟩:∃ r,s.fst kind unit=r:=⟨_,rfl⟩;obtain⟨P,hP⟩:∃ P:Dec->Bool,fstP s kind unit=P:=⟨_,rfl⟩;have hr0:r=oW P 0 (s.path.drop 0):=by rw[zAR,<-hP];exact hr.symm
 rw[hr];rw[hP] at cp;obtain⟨X,hX⟩:∃ X:Int->List Dec->Int,∀ i l,X i l=oW P i l:=⟨_,fun _ _=>rfl⟩;have hXn:∀ i,X i []=-1:=fun i=>by rw[hX];rfl
 have hXc:∀ i d r,X i (d::r)=if P d=true then i else X (i+1) r:=fun i d r=>by rw[hX,hX,zAS]
 rw[<-hX] at hr0;clear hP hr hs hX;cbv;refine z3 (σ:=Nat) (fun i=>⟨[(0,dlv s.path),(1,zOR),(7,.int .i64 (fun _=>(s.path.length:Int))),(8,.int .i64 (fun _=>(i:Int)))],kfO s kind unit⟩) (fun i=>i<=s.path.length/\r=X i (s.path.drop i)) (fun i=>s.path.length-i) 0 ⟨by omega,hr0⟩ (.le ?_ ?_ rfl) ?_;{cbv;repeat' first|exact trivial|exact lR|exact rfl|exact zC (by rw[zA])|apply And.intro};{cbv;repeat' first|exact trivial|exact lR|apply And.intro};clear hr0;intro i hi;obtain⟨h1,h2⟩:=hi;cbv;refine zG (fun h5=>?_) (fun h5=>?_)
 ·(have hlt:i<s.path.length:=by (try dsimp only [zF] at *);omega);obtain⟨d,hd⟩:=zT hlt
  have cv:=cp d (yA hd);rw[zY hd,hXc] at h2;generalize P d=p at *
  cbv;refine yX hd qM jH ?_;cbv;refine y0 id (.refl _) rfl (by repeat' first|exact trivial|exact lR|exact zC rfl|exact rfl|apply And.intro) cv (by repeat' first|exact trivial|exact lR|exact zC rfl|exact rfl|apply And.intro) rfl rfl rfl rfl rfl rfl rfl rfl ?_;cbv;refine zP (fun e=>?_) (fun e=>?_);{rw[if_pos e] at h2;cbv;refine rJ (.refl _) rfl (by repeat' first|exact trivial|exact rfl|apply And.intro) (by rfl) (by repeat' first|exact trivial|exact rfl|omega|apply And.intro) ?_;cbv;exact zC h2.symm};{rw[if_neg (by rw[e];decide)] at h2;cbv;exact⟨zD om om,i+1,⟨om,h2⟩,om,.le (by cbv;repeat' first|exact trivial|exact lR|exact rfl|exact zC om|apply And.intro) (by cbv;repeat' first|exact trivial|exact lR|apply And.intro) rfl⟩}
 ·(have he:i=s.path.length:=by (try dsimp only [zF] at *);omega);rw[he,w4,hXn] at h2
  cbv;refine rJ (.refl _) rfl (by repeat' first|exact trivial|exact rfl|apply And.intro) (by rfl) (by repeat' first|exact trivial|exact rfl|omega|apply And.intro) ?_;cbv;exact zC h2.symm
theorem sKfr (s:Scp)(kind unit:Int)(hs:Psz s):zE 55 [sv s,.int .i64 (fun _=>kind),.int .i64 (fun _=>unit)] (.int .i64 (fun _=>s.fst kind unit)):=by
 refine sF Tryz.f55 ?_;have ci:=sKfi s kind unit hs;clear hs;cbv;refine y0 (fun n=>match nqb n 1000000 with|true=>4|false=>(match nqb n 1000001 with|true=>5|false=>3)) (.refl _) rfl (by repeat' first|exact trivial|exact lR|exact zC rfl|exact rfl|apply And.intro) ci (by repeat' first|exact trivial|exact lR|exact zC rfl|exact rfl|apply And.intro) rfl rfl rfl rfl rfl rfl rfl rfl ?_;cbv
 (refine rC ?_;cbv)
 exact lR
abbrev mpO (ks:List Int):Obj':=.mp 119 (fun _=>ks)
theorem zM9 {z:Int}(h1:-9223372036854775808<=z)(h2:z<=9223372036854775807):KeyOk (fun _=>z):=⟨by simp only[Lit.wf,yT,decide_eq_true_eq];exact⟨h1,h2⟩⟩
abbrev uO (s:Scp) (st:Ust):List (Nat×Obj'):=[(1000000,.box (sc s)),(1000001,.box [.mpv 1000005]),(1000002,.box [.mpv 1000004]),(1000003,.box [.fn 54 [.ptr 1000006 0,.ptr 1000000 0,.ptr 1000007 0]]),
 (1000004,mpO st.1),(1000005,mpO st.2),(1000006,.box [.fn 53 [.ptr 1000002 0]]),(1000007,.box [.fn 52 [.ptr 1000000 0,.ptr 1000001 0,.ptr 1000003 0]])]
theorem sKdd (d:Int)(D:List Int)(h1:-9223372036854775808<=d)(h2:d<=9223372036854775807)(hD:D.length<2^39):Sound 53 [.int .i64 (fun _=>d),.ptr 1000002 0] [(1000002,.box [.mpv 1000004]),(1000004,mpO D)] [] (.tup []) [(1000002,.box [.mpv 1000004]),(1000004,mpO (cY d D))] []:=by
 refine sF Tryz.f53 ?_;obtain⟨R,hR⟩:∃ R,cY d D=R:=⟨_,rfl⟩;have hR':R=if 0<=d then d::D else D:=hR.symm
 rw[hR];clear hR;cbv;refine zG (fun e=>?_) (fun e=>?_);{rw[if_pos e] at hR';subst hR';cbv;refine⟨zM9 h1 h2,⟨by show D.length<_;omega⟩,?_⟩;cbv;refine rJ (.refl _) rfl (by repeat' first|exact trivial|exact rfl|apply And.intro) (by rfl) (by repeat' first|exact trivial|exact rfl|omega|apply And.intro) ?_;cbv};{rw[if_neg e] at hR';subst hR';cbv;refine rJ (.refl _) rfl (by repeat' first|exact trivial|exact rfl|apply And.intro) (by rfl) (by repeat' first|exact trivial|exact rfl|omega|apply And.intro) ?_;cbv}
abbrev useS (s:Scp) (l:List Mult) (a b:Ust):Prop:=Sound 54 [mlv l,.ptr 1000006 0,.ptr 1000000 0,.ptr 1000007 0] (uO s a) [] (.tup []) (uO s b) []
theorem sKlm (s:Scp)(U:List Mult->Ust->Ust)(n:Int)(st:Ust)(h1:-9223372036854775808<=n)(h2:n<=9223372036854775807)(hM:st.2.length<2^39) (cU:0<=n->n<s.lems.length->n∉st.2->useS s (s.pfn n) (st.1,n::st.2) (U (s.pfn n) (st.1,n::st.2))):Sound 52 [.int .i64 (fun _=>n),.ptr 1000000 0,.ptr 1000001 0,.ptr 1000003 0] (uO s st) [] (.tup []) (uO s (dC s U n st)) []:=by
 refine sF Tryz.f52 ?_;obtain⟨R,hR⟩:∃ R,dC s U n st=R:=⟨_,rfl⟩;have hR':R=if 0<=n/\n<s.lems.length/\n∉st.2 then U (s.pfn n) (st.1,n::st.2) else st:=hR.symm
 rw[hR];clear hR;obtain⟨D,M⟩:=st;dsimp only at hR' cU hM;cbv;refine zQ (fun e1=>?_) (fun e1=>?_)
 rotate_left
 {rw[if_neg (fun h=>e1 h.1)] at hR';subst hR';cbv;refine rJ (.refl _) rfl (by repeat' first|exact trivial|exact rfl|apply And.intro) (by rfl) (by repeat' first|exact trivial|exact rfl|omega|apply And.intro) ?_;cbv};cbv;refine zQ (fun e2=>?_) (fun e2=>?_)
 rotate_left
 {rw[if_neg (fun h=>e2 (by rw[zA];exact h.2.1))] at hR';subst hR';cbv;refine rJ (.refl _) rfl (by repeat' first|exact trivial|exact rfl|apply And.intro) (by rfl) (by repeat' first|exact trivial|exact rfl|omega|apply And.intro) ?_;cbv};rw[zA] at e2;cbv;refine⟨zM9 h1 h2,?_⟩;cbv;refine zP (fun e3=>?_) (fun e3=>?_);{rw[if_neg (fun h=>h.2.2 (of_decide_eq_true e3))] at hR';subst hR';cbv;refine rJ (.refl _) rfl (by repeat' first|exact trivial|exact rfl|apply And.intro) (by rfl) (by repeat' first|exact trivial|exact rfl|omega|apply And.intro) ?_;cbv};have e3':n∉M:=of_decide_eq_false e3;rw[if_pos ⟨e1,e2,e3'⟩] at hR';have c:=cU e1 e2 e3';rw[<-hR'] at c;obtain⟨m,hm⟩:=zT (l:=s.lems) (i:=n.toNat) om;have hp:s.pfn n=m.pf:=by unfold Scp.pfn;rw[hm];rfl
 rw[hp] at c;obtain⟨D',M'⟩:=R;clear hR' cU hp;cbv;refine⟨zM9 h1 h2,⟨by show M.length<_;omega⟩,?_⟩;cbv;refine zN 7 (by cbv) ?_;cbv;refine xL hm om xX wJ ?_;cbv;refine y0 id (.refl _) rfl (by repeat' first|exact trivial|exact lR|exact zC rfl|exact rfl|apply And.intro) c (by repeat' first|exact trivial|exact lR|exact zC rfl|exact rfl|apply And.intro) rfl rfl rfl rfl rfl rfl rfl rfl ?_;cbv;refine rJ (.refl _) rfl (by repeat' first|exact trivial|exact rfl|apply And.intro) (by rfl) (by repeat' first|exact trivial|exact rfl|omega|apply And.intro) ?_;cbv
def Rsm (r:Row):Prop:=(-4611686018427387904<=r.i/\r.i<4611686018427387904)/\(-4611686018427387904<=r.lo/\r.lo<4611686018427387904)/\(-4611686018427387904<=r.hi/\r.hi<4611686018427387904)
theorem oU {α:Type}(P:α->Bool):∀ l:List α,uP P l<=l.length
 |[]=>by show (-1:Int)<=((0:Nat):Int);decide| a::r=>by have:=oU P r;have h:=d7 P r;rw[show uP P (a::r)=if P a then 0 else if uP P r<0 then -1 else uP P r+1 from rfl,kI];split;{omega};{split <;> omega}
theorem zVN {s:Scp}{r:Row}(h:Rsm r)(hp:s.path.length<2^38):-9223372036854775808<=s.rowD r/\s.rowD r<=9223372036854775807:=by have h1:=d7 (fun d=>decide (d.k=1)&&(decide (d.i=r.i)&&d.fits s.q)) s.path;have h2:=d7 (fun d=>decide (d.k=2)&&(decide (d.i=r.i)&&d.fits s.q)) s.path;have g1:=oU (fun d=>decide (d.k=1)&&(decide (d.i=r.i)&&d.fits s.q)) s.path;have g2:=oU (fun d=>decide (d.k=2)&&(decide (d.i=r.i)&&d.fits s.q)) s.path;obtain⟨⟨a1,a2⟩,_⟩:=h;unfold Scp.rowD Scp.fst;split;{omega};split;{omega};split;{omega};{omega}
theorem sKus (s : Scp) (U : List Mult → Ust → Ust) (l : List Mult) (st : Ust) (hs : Psz s) (hl : l.length < 2^38) (hr : ∀ m, m ∈ l → Rsm m.row) (Q : Nat → Ust → Prop) (h0 : Q 0 st)
    (hQ : ∀ i a, Q i a → a.1.length < 2^39 ∧ a.2.length < 2^39)
    (hS : ∀ i m a, l[i]? = some m → Q i a → ∀ n, (n = m.row.lo - 1 ∨ n = m.row.hi - 1) → Rsm m.row → ∀ b, (b = (cY (s.rowD m.row) a.1, a.2) ∨ b = dC s U (m.row.lo - 1) (cY (s.rowD m.row) a.1, a.2)) →
      Sound 52 [.int .i64 (fun _ => n), .ptr 1000000 0, .ptr 1000001 0, .ptr 1000003 0] (uO s b) [] (.tup []) (uO s (dC s U n b)) [])
    (hN : ∀ i m a, l[i]? = some m → Q i a → Q (i + 1) (dC s U (m.row.hi - 1) (dC s U (m.row.lo - 1) (cY (s.rowD m.row) a.1, a.2)))) :
    useS s l st (useL s U l st) := by
  refine sF Tryz.f54 ?_
  have hpl := hs.p.len
  have c1 := fun unit => sKfr s 1 unit hs
  have c2 := fun unit => sKfr s 2 unit hs
  have hrd : ∀ r, s.rowD r = if r.k = 4 then r.i else if (r.k = 7 ∨ r.k = 8) ∧ r.lo = 0 then s.fst 1 r.i else if (r.k = 9 ∨ r.k = 10) ∧ r.hi = 0 then s.fst 2 r.i else -1 := fun _ => rfl
  have hsm := fun r h => zVN (s := s) (r := r) h hpl
  obtain ⟨R, hR⟩ : ∃ R, useL s U l st = R := ⟨_, rfl⟩
  rw [hR]
  obtain ⟨X, hX⟩ : ∃ X : List Mult → Ust → Ust, useL s U = X := ⟨_, rfl⟩
  obtain ⟨LS, hLS⟩ : ∃ LS : Int → Ust → Ust, dC s U = LS := ⟨_, rfl⟩
  have hXn : ∀ a, X [] a = a := fun a => by rw [← hX]; rfl
  have hXc : ∀ m r a, X (m :: r) a = X r (LS (m.row.hi - 1) (LS (m.row.lo - 1) (cY (s.rowD m.row) a.1, a.2))) := fun m r a => by rw [← hX, ← hLS]; rfl
  rw [hX] at hR
  rw [hLS] at hS hN
  clear hX hLS hs
  cbv
  refine z3 (σ := Nat × List Int × List Int) (fun x => ⟨[(1, .ptr 1000006 0), (2, .ptr 1000000 0), (3, .ptr 1000007 0), (8, mlv l), (9, .int .i64 (fun _ => (l.length : Int))), (10, .int .i64 (fun _ => (x.1 : Int)))], uO s (x.2.1, x.2.2)⟩)
    (fun x => x.1 ≤ l.length ∧ X (l.drop x.1) (x.2.1, x.2.2) = R ∧ Q x.1 (x.2.1, x.2.2)) (fun x => l.length - x.1) (0, st.1, st.2) ⟨xD _, hR, h0⟩ (.le (by cbv; repeat' first | exact trivial | exact lR | exact rfl | exact zC (by rw [zA]) | apply And.intro) (by cbv; repeat' first | exact trivial | exact lR | exact rfl | exact ⟨rfl⟩ | apply And.intro) rfl) ?_
  clear hR h0
  intro x hx
  obtain ⟨i, D, M⟩ := x
  obtain ⟨g1, g2, g3⟩ := hx
  dsimp only at g1 g2 g3
  cbv
  refine zG (fun h5 => ?_) (fun h5 => ?_)
  · have hlt : i < l.length := by (try dsimp only [zF] at *); omega
    obtain ⟨m, hm⟩ := zT hlt
    rw [zY hm, hXc] at g2
    have hrm := hr m (yA hm)
    obtain ⟨q1, q2⟩ := hQ i (D, M) g3
    have cl := hS i m (D, M) hm g3
    have nx := hN i m (D, M) hm g3
    obtain ⟨⟨k, ri, lo, hi⟩, mc'⟩ := m
    dsimp only at g2 q1 q2 cl nx hrm
    have hd := hrd ⟨k, ri, lo, hi⟩
    have hds := hsm ⟨k, ri, lo, hi⟩ hrm
    generalize s.rowD ⟨k, ri, lo, hi⟩ = d at *
    obtain ⟨⟨r1, r2⟩, ⟨r3, r4⟩, ⟨r5, r6⟩⟩ := hrm
    dsimp only at hd r1 r2 r3 r4 r5 r6
    have cd := sKdd d D hds.1 hds.2 oM
    have d1 := c1 ri
    have d2 := c2 ri
    generalize s.fst 1 ri = f1 at *
    generalize s.fst 2 ri = f2 at *
    obtain ⟨D0, hD0⟩ : ∃ D0, cY d D = D0 := ⟨_, rfl⟩
    have hn1 : d = -1 → D = D0 := fun e => by rw [← hD0, e]; rfl
    rw [hD0] at cd cl nx g2
    obtain ⟨b1, hb1⟩ : ∃ b, LS (lo - 1) (D0, M) = b := ⟨_, rfl⟩
    have e1 := cl (lo - 1) (.inl rfl) ⟨⟨r1, r2⟩, ⟨r3, r4⟩, ⟨r5, r6⟩⟩ (D0, M) (.inl rfl)
    have e2 := cl (hi - 1) (.inr rfl) ⟨⟨r1, r2⟩, ⟨r3, r4⟩, ⟨r5, r6⟩⟩ b1 (.inr hb1.symm)
    rw [hb1] at e1 nx g2
    obtain ⟨b2, hb2⟩ : ∃ b, LS (hi - 1) b1 = b := ⟨_, rfl⟩
    rw [hb2] at e2 nx g2
    obtain ⟨D1, M1⟩ := b1
    obtain ⟨D2, M2⟩ := b2
    clear hS hN hQ hr hrd hsm hXn hXc c1 c2 cl hb1 hb2 hD0
    cbv
    refine yX hm vP wA ?_
    cbv
    refine fX (σ := Unit) (fun _ => ⟨[(1, .ptr 1000006 0), (2, .ptr 1000000 0), (3, .ptr 1000007 0), (7, .ptr 7 0), (8, mlv l), (9, .int .i64 (fun _ => (l.length : Int))), (10, .int .i64 (fun _ => (i : Int)))], uO s (D0, M) ++ [(7, .box [.int .i64 (fun _ => k), .int .i64 (fun _ => ri), .int .i64 (fun _ => lo), .int .i64 (fun _ => hi)])]⟩) (fun _ => True) (fun e => ?_) (fun e => ?_) (fun _ _ => ?_)
    · rw [if_pos e] at hd
      subst hd
      cbv
      refine y0 id (.refl _) rfl (by repeat' first | exact trivial | exact lR | exact zC rfl | exact rfl | apply And.intro) cd (by repeat' first | exact trivial | exact lR | exact zC rfl | exact rfl | apply And.intro) rfl rfl rfl rfl rfl rfl rfl rfl ?_
      cbv
      exact ⟨(), trivial, .le (by cbv; repeat' first | exact trivial | exact lR | exact rfl | exact zC om | apply And.intro) (by cbv; repeat' first | exact trivial | exact lR | exact zI rfl | exact rfl | exact ⟨rfl⟩ | apply And.intro) rfl⟩
    · rw [if_neg e] at hd
      cbv
      repeat' first
        | exact trivial
        | (exfalso; (try dsimp only [zF] at *); omega)
        | (refine zQ (fun x => ?_) (fun x => ?_) <;> cbv)
        | (refine zG (fun x => ?_) (fun x => ?_) <;> cbv)
        | (have gk : (k = 7 ∨ k = 8) ∧ lo = 0 := by (try dsimp only [zF] at *); omega
           rw [if_pos gk] at hd
           subst hd
           refine zN 5 (by cbv) ?_
           cbv
           refine dA d1 ?_
           cbv
           refine y0 id (.refl _) rfl (by repeat' first | exact trivial | exact lR | exact zC rfl | exact rfl | apply And.intro) cd (by repeat' first | exact trivial | exact lR | exact zC rfl | exact rfl | apply And.intro) rfl rfl rfl rfl rfl rfl rfl rfl ?_
           cbv
           exact ⟨(), trivial, .le (by cbv; repeat' first | exact trivial | exact lR | exact rfl | exact zC om | apply And.intro) (by cbv; repeat' first | exact trivial | exact lR | exact zI rfl | exact rfl | exact ⟨rfl⟩ | apply And.intro) rfl⟩)
        | (have gk : ¬ ((k = 7 ∨ k = 8) ∧ lo = 0) := by (try dsimp only [zF] at *); omega
           have gl : (k = 9 ∨ k = 10) ∧ hi = 0 := by (try dsimp only [zF] at *); omega
           rw [if_neg gk, if_pos gl] at hd
           subst hd
           refine zN 5 (by cbv) ?_
           cbv
           refine dA d2 ?_
           cbv
           refine y0 id (.refl _) rfl (by repeat' first | exact trivial | exact lR | exact zC rfl | exact rfl | apply And.intro) cd (by repeat' first | exact trivial | exact lR | exact zC rfl | exact rfl | apply And.intro) rfl rfl rfl rfl rfl rfl rfl rfl ?_
           cbv
           exact ⟨(), trivial, .le (by cbv; repeat' first | exact trivial | exact lR | exact rfl | exact zC om | apply And.intro) (by cbv; repeat' first | exact trivial | exact lR | exact zI rfl | exact rfl | exact ⟨rfl⟩ | apply And.intro) rfl⟩)
        | (have gk : ¬ ((k = 7 ∨ k = 8) ∧ lo = 0) := by (try dsimp only [zF] at *); omega
           have gl : ¬ ((k = 9 ∨ k = 10) ∧ hi = 0) := by (try dsimp only [zF] at *); omega
           rw [if_neg gk, if_neg gl] at hd
           have hN0 := hn1 hd
           exact ⟨(), trivial, .le (by cbv; repeat' first | exact trivial | exact lR | exact rfl | exact zC om | apply And.intro) (by cbv; repeat' first | exact trivial | exact lR | exact zI rfl | exact rfl | exact ⟨rfl⟩ | exact ⟨hN0⟩ | apply And.intro) rfl⟩)
    · cbv
      refine ⟨zD om om, ?_⟩
      cbv
      refine y0 id (.refl _) rfl (by repeat' first | exact trivial | exact lR | exact zC rfl | exact rfl | apply And.intro) e1 (by repeat' first | exact trivial | exact lR | exact zC rfl | exact rfl | apply And.intro) rfl rfl rfl rfl rfl rfl rfl rfl ?_
      cbv
      refine ⟨zD om om, ?_⟩
      cbv
      refine y0 id (.refl _) rfl (by repeat' first | exact trivial | exact lR | exact zC rfl | exact rfl | apply And.intro) e2 (by repeat' first | exact trivial | exact lR | exact zC rfl | exact rfl | apply And.intro) rfl rfl rfl rfl rfl rfl rfl rfl ?_
      cbv
      exact ⟨zD om om, (i + 1, D2, M2), ⟨om, g2, nx⟩, om, .le (by cbv; repeat' first | exact trivial | exact lR | exact rfl | exact zC om | apply And.intro) (by cbv; repeat' first | exact trivial | exact lR | exact zI rfl | exact rfl | exact ⟨rfl⟩ | apply And.intro) rfl⟩
  · have he : i = l.length := by (try dsimp only [zF] at *); omega
    rw [he, w4, hXn] at g2
    subst g2
    cbv
    refine rJ (.refl _) rfl (by repeat' first | exact trivial | exact rfl | apply And.intro) (by rfl) (by repeat' first | exact trivial | exact rfl | omega | apply And.intro) ?_
    cbv
structure UseOk (s:Scp) (l:List Mult) (st:Ust):Prop where
 len:l.length<2^38
 row:∀ m,m∈l->Rsm m.row
 wgt:wgt s st+l.length<2^39
 vol:vol s st<2^39
structure Lpf (s:Scp):Prop where
 len:∀ m,m∈s.lems->m.pf.length<2^38
 row:∀ m,m∈s.lems->∀ x,x∈m.pf->Rsm x.row
theorem zWP (s:Scp)(U:List Mult->Ust->Ust)(f:Nat)(hs:Psz s)(hp:Lpf s)(hR:∀ l a,um s a.2<f->Run s l a (U l a))(hW:∀ l a,um s a.2<f->wgt s (U l a)<=wgt s a+l.length)(hV:∀ l a,um s a.2<f->vol s (U l a)=vol s a) (hC:∀ l st,um s st.2<f->UseOk s l st->useS s l st (U l st)) (l:List Mult) (st:Ust) (hf:um s st.2<=f) (h:UseOk s l st):useS s l st (useL s U l st):=by
 have key:∀ i m (a:Ust),l[i]?=some m->(um s a.2<=f/\wgt s a+(l.length-i)<=wgt s st+l.length/\vol s a=vol s st)->∀ b,(b=(cY (s.rowD m.row) a.1,a.2)\/b=dC s U (m.row.lo-1) (cY (s.rowD m.row) a.1,a.2)) ->
   um s b.2<=f/\wgt s b+(l.length-(i+1))<=wgt s st+l.length/\vol s b=vol s st:=by
  (intro i m a hm hq b hb;obtain⟨q1,q2,q3⟩:=hq;have hi:i<l.length:=(wH.1 hm).1;have u1:um s ((cY (s.rowD m.row) a.1,a.2):Ust).2<=f:=q1;have w1:wgt s (cY (s.rowD m.row) a.1,a.2)<=wgt s a+1:=by have:=zKN (s.rowD m.row) a.1;show (cY _ _).length+pot s a.2<=a.1.length+pot s a.2+1;omega);have o1:vol s (cY (s.rowD m.row) a.1,a.2)=vol s a:=rfl;rcases hb with rfl|rfl;{exact⟨u1,by omega,by omega⟩}
  {have w2:=oP hW (n:=m.row.lo-1) u1;have o2:=oQ hV (n:=m.row.lo-1) u1;exact⟨zDC hR u1,by omega,by omega⟩}
 refine sKus s U l st hs h.len h.row (fun i a=>um s a.2<=f/\wgt s a+(l.length-i)<=wgt s st+l.length/\vol s a=vol s st) ⟨hf,by omega,rfl⟩ ?_ ?_ ?_;{intro i a hq;obtain⟨q1,q2,q3⟩:=hq;have hw:=h.wgt;have hv:=h.vol;have e1:wgt s a=a.1.length+pot s a.2:=rfl;have e2:vol s a=a.2.length+um s a.2:=rfl;exact⟨by omega,by omega⟩}
 ·(intro i m a hm hq n hn hr b hb;obtain⟨q1,q2,q3⟩:=key i m a hm hq b hb;obtain⟨_,⟨r1,r2⟩,⟨r3,r4⟩⟩:=hr;have hw:=h.wgt;have hv:=h.vol;have e2:vol s b=b.2.length+um s b.2:=rfl;refine sKlm s U n b (by rcases hn with rfl|rfl <;> omega) (by rcases hn with rfl|rfl <;> omega) oM (fun g0 g1 g2=>?_);have hu:=zIT g0 g1 g2;have hpt:=zN6 g0 g1 g2;obtain⟨x,hx⟩:=zT (l:=s.lems) (i:=n.toNat) oM;have hpn:s.pfn n=x.pf:=by unfold Scp.pfn;rw[hx];rfl);have hxm:=yA hx
  have e1:wgt s b=b.1.length+pot s b.2:=rfl;have e3:wgt s (b.1,n::b.2)=b.1.length+pot s (n::b.2):=rfl;have e4:vol s (b.1,n::b.2)=(n::b.2).length+um s (n::b.2):=rfl;rw[kI] at e4;exact hC _ _ (by show um s (n::b.2)<f;omega) ⟨by rw[hpn];exact hp.len x hxm,by rw[hpn];exact hp.row x hxm,by omega,by omega⟩
 {intro i m a hm hq;obtain⟨q1,q2,q3⟩:=key i m a hm hq _ (.inr rfl);have w2:=oP hW (n:=m.row.hi-1) q1;have o2:=oQ hV (n:=m.row.hi-1) q1;exact⟨zDC hR q1,by omega,by omega⟩}
theorem sUse (s:Scp)(hs:Psz s)(hp:Lpf s):∀ (f:Nat) (l:List Mult) (st:Ust),um s st.2<=f->UseOk s l st->useS s l st (sK s f l st)
 |0,l,st,hf,h=>zWP s (fun _ st=>st) 0 hs hp (fun _ _ h=>absurd h oM) (fun _ _ h=>absurd h oM) (fun _ _ h=>absurd h oM) (fun _ _ h=>absurd h oM) l st hf h| f+1,l,st,hf,h=>zWP s (sK s f) (f+1) hs hp (fun l a h=>tN s f l a oM) (fun l a h=>zDP s f l a oM) (fun l a h=>zDQ s f l a oM) (fun l st h h'=>sUse s hs hp f l st oM h') l st hf h
theorem yAL {rs:List ResultVar}{r:PV}{ps ps':PS}{kept made:List (Nat×Obj')}(hn:Nat->Nat)(hw:Wk ps ps')(h3:lv r=true)(h4:kF hn ps'.objs (kept++made))(h5:ndO (z5 hn (kept++made))=true)(h6:zFI hn kept)(h:match dJ ps' rs with
  |some l=>les (lD l) (ren hn r)| none=>False):RetOk rs r kept made ps:=by
 cases h1:dJ ps' rs with
 |none=>rw[h1] at h;exact h.elim| some l=>rw[h1] at h;exact⟨ps',l,hn,hw,h1,dO h,h3,h4,h5,h6⟩
abbrev zS9 (n:Nat):PV:=.fn 125 [.ptr n 0]
theorem sKky (ks:List Int):Sound 57 [.mpv 1000000] [(1000000,mpO ks)] [] (zS9 1) [(1000000,mpO ks)] [(1,.box [.mpv 1000000])]:=by
 refine sF Tryz.f57 ?_;cbv;refine yAL (fun n=>n) (.refl _) rfl (by repeat' first|exact trivial|exact rfl|apply And.intro) (by rfl) (by repeat' first|exact trivial|exact rfl|omega|apply And.intro) ?_;cbv
 repeat' first|exact trivial|exact lR|exact rfl|apply And.intro
abbrev zK1:Prop:=∀ ks:List Int,ks.length<2^40->(∀ z,z∈ks->-9223372036854775808<=z/\z<=9223372036854775807)->Sound 56 [zS9 1000001] [(1000000,mpO ks),(1000001,.box [.mpv 1000000])] [] (zlv (jV ks)) [(1000000,mpO ks),(1000001,.box [.mpv 1000000])] []
theorem zW1:MapOk 119:=⟨3,4,by rw[uV];rfl,by rw[uV];rfl,by rw[uV];rfl,by cbv⟩
def usH (n:Nat):Nat:=match nqb n 1000000 with
 |true=>2
 |false=>match nqb n 1000001 with
  |true=>7
  |false=>match nqb n 1000002 with
   |true=>6
   |false=>match nqb n 1000003 with
    |true=>8
    |false=>match nqb n 1000004 with
     |true=>11
     |false=>match nqb n 1000005 with
      |true=>12
      |false=>match nqb n 1000006 with
       |true=>10| false=>9
theorem sKud (h56 : zK1) (s : Scp) (l : List Mult) (hs : Psz s) (hp : Lpf s) (h : UseOk s l ([], [])) (hz : ∀ z, (z ∈ (sK s s.lems.length l ([], [])).1 ∨ z ∈ (sK s s.lems.length l ([], [])).2) → -9223372036854775808 ≤ z ∧ z ≤ 9223372036854775807) (hl : (sK s s.lems.length l ([], [])).1.length < 2^40 ∧ (sK s s.lems.length l ([], [])).2.length < 2^40) (hu : um s [] ≤ s.lems.length) :
    zE 14 [sv s, mlv l] (.tup [zlv (jV (sK s s.lems.length l ([], [])).1), zlv (jV (sK s s.lems.length l ([], [])).2)]) := by
  refine sF Tryz.f14 ?_
  have cu := sUse s hs hp s.lems.length l ([], []) hu h
  obtain ⟨R, hR⟩ : ∃ R, sK s s.lems.length l ([], []) = R := ⟨_, rfl⟩
  rw [hR] at cu hz hl ⊢
  obtain ⟨D, M⟩ := R
  dsimp only at hz hl ⊢
  have k1 := sKky D
  have k2 := sKky M
  have s1 := h56 D hl.1 (fun z g => hz z (.inl g))
  have s2 := h56 M hl.2 (fun z g => hz z (.inr g))
  generalize jV D = SD at *
  generalize jV M = SM at *
  clear hR hz hl hs hp h hu h56
  cbv
  refine ⟨zW1, zW1, ?_⟩
  cbv
  refine y0 usH (.refl _) rfl (by repeat' first | exact trivial | exact lR | exact zC rfl | exact rfl | apply And.intro) cu (by repeat' first | exact trivial | exact lR | exact zC rfl | exact rfl | apply And.intro) rfl rfl rfl rfl rfl rfl rfl rfl ?_
  cbv
  refine pU (σ := Unit) (fun _ => ⟨[(4, zlv SD), (5, zlv SM)], []⟩) (fun _ => True) (.refl _) (by cbv) ?_ ?_
  · cbv
    repeat' first
      | exact trivial
      | (refine y0 hnM1 (.refl _) rfl ?_ k1 ?_ rfl rfl rfl rfl rfl rfl rfl rfl ?_
         · repeat' first | exact trivial | exact lR | exact rfl | apply And.intro
         · repeat' first | exact trivial | exact lR | exact rfl | apply And.intro
         cbv)
      | (refine y0 hnM2 (.refl _) rfl ?_ k2 ?_ rfl rfl rfl rfl rfl rfl rfl rfl ?_
         · repeat' first | exact trivial | exact lR | exact rfl | apply And.intro
         · repeat' first | exact trivial | exact lR | exact rfl | apply And.intro
         cbv)
      | (refine y0 hnM1 (.refl _) rfl ?_ s1 ?_ rfl rfl rfl rfl rfl rfl rfl rfl ?_
         · repeat' first | exact trivial | exact lR | exact rfl | apply And.intro
         · repeat' first | exact trivial | exact lR | exact rfl | apply And.intro
         cbv)
      | (refine y0 hnM2 (.refl _) rfl ?_ s2 ?_ rfl rfl rfl rfl rfl rfl rfl rfl ?_
         · repeat' first | exact trivial | exact lR | exact rfl | apply And.intro
         · repeat' first | exact trivial | exact lR | exact rfl | apply And.intro
         cbv)
      | exact ⟨(), trivial, .le (by cbv; exact okA) trivial rfl⟩
      | apply And.intro
  · intro _ _
    cbv
    (refine rC ?_; cbv)
    exact okA
theorem zQ0:zK1:=fun ks h1 h2=>zIF ks h1 h2
abbrev vR:=Int×Bool
def ltc (l:vR):List PV:=[.int .i64 (fun _=>l.1),.bool (fun _=>l.2)]
abbrev ltv (l:vR):PV:=.agg [.int .i64 (fun _=>l.1),.bool (fun _=>l.2)]
abbrev lE (l:List vR):PV:=.sl (fun _=>enc ltc l)
theorem uB (l:vR):yR qW (ltc l)=true:=rfl
theorem qC (l:vR):(ltc l).length=2:=rfl
abbrev fldB (s : String) (o b : Nat) : Field := { name := s, type := 4, offset := o, embedded := false, tag := "", pkgPath := "", byteOffset := b }
theorem zVX:Pg.underlying 83=some (.struct (Pg.fieldsOf 83)):=by rw[uV];kernel_rfl
theorem zRP : (Pg.fieldsOf 83).toList = [fld "Unit" 0 0, fldB "On" 1 8] := by rw [uV]; kernel_rfl
theorem zRO:Pg.stoodInHeld 83=false:=by rw[uV];kernel_rfl
theorem zPM:Pg.eqGuardType Pg.depth 83=false:=by rw[uV];kernel_rfl
theorem zL2:Pg.plainKey 4=true:=by rw[uV];kernel_rfl
theorem zR9:Pg.underlying 4=some .bool:=by rw[uV];kernel_rfl
abbrev litA (a:vR):Array Value:=#[.int .i64 a.1,.bool a.2]
theorem zPN (a b:vR)(w:World):(Op.equalIn 10000 83 (.agg (litA a)) (.agg (litA b))).run Pg w=.ok (decide (a=b)) w:=by
 rw[show (10000:Nat)=9999+1 from rfl,run_equalIn_agg w 9999 _ _ _ zVX zRO,zRP];have p0:∀ (c:vR),(part 3 (litA c) 0).run Pg w=.ok (.int .i64 c.1) w:=fun c=>run_part_plain _ rY rfl;have p1:∀ (c:vR),(part 4 (litA c) 1).run Pg w=.ok (.bool c.2) w:=fun c=>run_part_plain _ zL2 rfl;have q:∀ (x y:Int),(Op.equalIn 9999 3 (.int .i64 x) (.int .i64 y)).run Pg w=.ok (x == y) w:=fun x y=>run_equalIn_int w 9998 _ .i64 .i64 x y zOL;have q2:∀ (x y:Bool),(Op.equalIn 9999 4 (.bool x) (.bool y)).run Pg w=.ok (x == y) w:=fun x y=>run_equalIn_bool w 9998 _ x y zR9;have e:decide (a=b)=((a.1 == b.1)&&(a.2 == b.2)):=by obtain⟨a1,a2⟩:=a;obtain⟨b1,b2⟩:=b;rw[bQ];simp
 rw[e];simp only[Op.eqFields,Sem.run_bind,Sem.run_ite,p0,p1,q,q2,Result.andThen_ok,Sem.run_pure];generalize (a.1 == b.1)=x0;generalize (a.2 == b.2)=x1;cases x0 <;> cases x1 <;> rfl
theorem zOT {x y:Operand}{a b:vR}{K:PV->Prop}(hK:K (.bool (fun _=>decide (a=b)))):EqS .eql 83 x y [.i fun _=>a.1,.b fun _=>a.2] [.i fun _=>b.1,.b fun _=>b.2] K:=by refine⟨⟨decide (a=b),fun w=>?_,hK⟩⟩;show (do eqGuard .eql 83 x y (.agg (litA a)) (.agg (litA b));binOp .eql 83 (.agg (litA a)) (.agg (litA b)):Sem Value).run Pg w=_;simp only[Sem.run_bind,run_eqGuard_agg w .eql _ x y _ _ zPM,Result.andThen_ok,run_eql_struct,zPN]
theorem sKo1 (l:vR):zE 67 [ltv l] (ltv (l.1,!l.2)):=by
 refine sF Tryz.f67 ?_;obtain⟨u,b⟩:=l;cbv
 (refine rC ?_;cbv)
 exact⟨lR,vY rfl,trivial⟩
def litO (d:Dec):Option vR:=if d.k=1\/d.k=2 then some (d.i,decide (d.k=1)) else none
theorem sKun (d:Dec):zE 140 [dv d] (.bool (fun _=>decide (d.k=1\/d.k=2))):=by
 refine sF Tryz.f140 ?_;obtain⟨k,i,x⟩:=d;cbv;refine zQ (fun e=>?_) (fun e=>?_)
 ·cbv
  (refine rC ?_;cbv)
  exact yN (decide_eq_true (.inl e))
 ·cbv
  (refine rC ?_;cbv)
  exact zV (by rw[decide_eq_decide];exact⟨.inr,fun h=>h.elim (fun h=>absurd h e) id⟩)
theorem sKlP (d:Dec):zE 66 [dv d] (.tup [ltv ((litO d).getD (0,false)),.bool (fun _=>(litO d).isSome)]):=by
 refine sF Tryz.f66 ?_;have cu:=sKun d;obtain⟨V,hV⟩:∃ X,((litO d).getD (0,false)).1=X:=⟨_,rfl⟩;obtain⟨B,hB⟩:∃ X,((litO d).getD (0,false)).2=X:=⟨_,rfl⟩;obtain⟨S,hS⟩:∃ X,(litO d).isSome=X:=⟨_,rfl⟩;have k1:(d.k=1\/d.k=2)->V=d.i/\B=decide (d.k=1)/\S=true:=fun h=>by rw[<-hV,<-hB,<-hS];unfold litO;rw[if_pos h];exact⟨rfl,rfl,rfl⟩
 have k2:¬(d.k=1\/d.k=2)->V=0/\B=false/\S=false:=fun h=>by rw[<-hV,<-hB,<-hS];unfold litO;rw[if_neg h];exact⟨rfl,rfl,rfl⟩
 unfold ltv;rw[hV,hB,hS];obtain⟨k,i,x⟩:=d;dsimp only at *
 clear hV hB hS;cbv;refine cA cu ?_;cbv;refine zP (fun e=>?_) (fun e=>?_)
 ·obtain⟨q1,q2,q3⟩:=k1 (of_decide_eq_true e);subst q1 q2 q3;cbv
  (refine rC ?_;cbv)
  exact okA
 ·obtain⟨q1,q2,q3⟩:=k2 (of_decide_eq_false e);subst q1 q2 q3;cbv
  (refine rC ?_;cbv)
  exact okA
theorem sKdP (l:vR):zE 91 [ltv l] (dv ⟨if l.2=true then 1 else 2,l.1,R0⟩):=by
 refine sF Tryz.f91 ?_;obtain⟨u,b⟩:=l;cbv;refine zP (fun e=>?_) (fun e=>?_)
 ·cbv
  (refine rC ?_;cbv)
  exact⟨zC (by rw[if_pos e]),lR,zM rfl,yW rfl,yW rfl,trivial⟩
 ·cbv
  (refine rC ?_;cbv)
  exact⟨zC (by rw[if_neg (by rw[e];decide)]),lR,zM rfl,yW rfl,yW rfl,trivial⟩
def clG:Option Int->List vR->Bool
 |_,[]=>true| p,a::r=>decide (0<=a.1/\a.1<1024/\(p.all fun q=>decide (q<a.1))=true)&&clG (some a.1) r
def rN (c:List vR) (i:Nat):Option Int:=if i=0 then none else (c[i-1]?).map Prod.fst
theorem zKQ {c:List vR}{i:Nat}{a:vR}(h:c[i]?=some a):∃ pb:Int,((a.1<0\/1024<=a.1\/(i≠0/\a.1<=pb))->clG (rN c i) (c.drop i)=false) /\ ((0<=a.1/\a.1<1024/\(i=0\/pb<a.1))->clG (rN c i) (c.drop i)=clG (rN c (i+1)) (c.drop (i+1)))/\(i≠0->∃ bb,c[i-1]?=some (pb,bb)):=by
 have hn:rN c (i+1)=some a.1:=by unfold rN;rw[if_neg oM,Nat.add_sub_cancel,h];rfl
 rw[hn,zY h];by_cases h0:i=0;{subst h0;refine⟨0,fun g=>?_,fun g=>?_,fun g=>absurd rfl g⟩;{show (decide _&&_)=false;rw[decide_eq_false (fun e=>by obtain⟨e1,e2,_⟩:=e;omega)];rfl};{show (decide _&&_)=_;rw[decide_eq_true ⟨g.1,g.2.1,rfl⟩];rfl}}
 ·(have hi:i<c.length:=(wH.1 h).1;obtain⟨⟨pb,bb⟩,hb⟩:=zT (l:=c) (i:=i-1) oM;have hp:rN c i=some pb:=by unfold rN;rw[if_neg h0,hb];rfl);rw[hp]
  refine⟨pb,fun g=>?_,fun g=>?_,fun _=>⟨bb,hb⟩⟩;{show (decide _&&_)=false;rw[decide_eq_false (fun e=>by obtain⟨e1,e2,e3⟩:=e;have e3':decide (pb<a.1)=true:=e3;have:=of_decide_eq_true e3';omega)];rfl};{show (decide _&&_)=_;rw[decide_eq_true ⟨g.1,g.2.1,(show decide (pb<a.1)=true from decide_eq_true (g.2.2.resolve_left h0))⟩];rfl}
theorem sKvR (c : List vR) (hc : c.length < 2^38) : zE 82 [lE c] (.bool (fun _ => clG none c)) := by
  refine sF Tryz.f82 ?_
  obtain ⟨r, hr⟩ : ∃ r, clG none c = r := ⟨_, rfl⟩
  have hr0 : r = clG (rN c 0) (c.drop 0) := hr.symm
  rw [hr]
  obtain ⟨G, hG⟩ : ∃ G : Nat → Bool, ∀ i, G i = clG (rN c i) (c.drop i) := ⟨_, fun _ => rfl⟩
  rw [← hG] at hr0
  have hGn : G c.length = true := by rw [hG, w4]; cases rN c c.length <;> rfl
  have key := fun i a (h : c[i]? = some a) => zKQ h
  simp only [← hG] at key
  clear hr hG
  cbv
  refine z3 (σ := Nat) (fun i => ⟨[(0, lE c), (3, .int .i64 (fun _ => (i : Int)))], []⟩) (fun i => i ≤ c.length ∧ r = G i) (fun i => c.length - i) 0 ⟨xD _, hr0⟩ (.le (by cbv; repeat' first | exact trivial | exact lR | exact zC (by rw [zA]) | apply And.intro) trivial rfl) ?_
  clear hr0
  intro i hi
  obtain ⟨g1, g2⟩ := hi
  cbv
  refine zG (fun h5 => ?_) (fun h5 => ?_)
  · have hlt : i < c.length := by (try rw [zA] at h5); (try dsimp only [zF] at *); omega
    obtain ⟨a, ha⟩ := zT hlt
    obtain ⟨pb, k1, k2, hb⟩ := key i a ha
    rw [← g2] at k1 k2
    clear key
    obtain ⟨au, ab⟩ := a
    dsimp only at k1 k2 hb
    cbv
    refine zN 32 (by cbv) ?_
    cbv
    repeat' first
      | (refine zQ (fun x => ?_) (fun x => ?_) <;> cbv)
      | (refine zG (fun x => ?_) (fun x => ?_) <;> cbv)
      | (refine yX ha uB qC ?_; cbv)
      | (have hz : i ≠ 0 := by ((try dsimp only [zF] at *); omega)
         obtain ⟨bb, hb'⟩ := hb hz
         refine ⟨zD om om, xL hb' om uB qC ?_⟩
         cbv)
      | (have g : au < 0 ∨ 1024 ≤ au ∨ (i ≠ 0 ∧ au ≤ pb) := by ((try dsimp only [zF] at *); omega)
         have g' := k1 g
         (refine rC ?_; cbv)
         exact zM g')
      | (have g : 0 ≤ au ∧ au < 1024 ∧ (i = 0 ∨ pb < au) := by ((try dsimp only [zF] at *); omega)
         have g' := k2 g
         exact ⟨zD om om, i + 1, ⟨(show i + 1 ≤ _ by omega), g'⟩, om, .le (by cbv; repeat' first | exact trivial | exact lR | exact zC om | apply And.intro) trivial rfl⟩)
  · have he : i = c.length := by (try rw [zA] at h5); (try dsimp only [zF] at *); omega
    rw [he, hGn] at g2
    cbv
    (refine rC ?_; cbv)
    exact yN g2
theorem sKvP (c : List vR) (hc : c.length < 2^38) : zE 81 [lE c] (.bool (fun _ => clG none c)) := by
  refine sF Tryz.f81 ?_
  obtain ⟨r, hr⟩ : ∃ r, clG none c = r := ⟨_, rfl⟩
  have hr0 : r = clG (rN c 0) (c.drop 0) := hr.symm
  rw [hr]
  obtain ⟨G, hG⟩ : ∃ G : Nat → Bool, ∀ i, G i = clG (rN c i) (c.drop i) := ⟨_, fun _ => rfl⟩
  rw [← hG] at hr0
  have hGn : G c.length = true := by rw [hG, w4]; cases rN c c.length <;> rfl
  have key := fun i a (h : c[i]? = some a) => zKQ h
  simp only [← hG] at key
  clear hr hG
  cbv
  refine z3 (σ := Nat) (fun i => ⟨[(0, lE c), (5, lE c), (6, .int .i64 (fun _ => (c.length : Int))), (7, .int .i64 (fun _ => (i : Int)))], []⟩) (fun i => i ≤ c.length ∧ r = G i) (fun i => c.length - i) 0 ⟨xD _, hr0⟩ (.le (by cbv; repeat' first | exact trivial | exact lR | exact zC (by rw [zA]) | apply And.intro) trivial rfl) ?_
  clear hr0
  intro i hi
  obtain ⟨g1, g2⟩ := hi
  cbv
  refine zG (fun h5 => ?_) (fun h5 => ?_)
  · have hlt : i < c.length := by (try rw [zA] at h5); (try dsimp only [zF] at *); omega
    obtain ⟨a, ha⟩ := zT hlt
    obtain ⟨pb, k1, k2, hb⟩ := key i a ha
    rw [← g2] at k1 k2
    clear key
    obtain ⟨au, ab⟩ := a
    dsimp only at k1 k2 hb
    cbv
    refine yX ha uB qC ?_
    cbv
    refine zN 23 (by cbv) ?_
    cbv
    repeat' first
      | (refine zQ (fun x => ?_) (fun x => ?_) <;> cbv)
      | (refine zG (fun x => ?_) (fun x => ?_) <;> cbv)
      | (refine yX ha uB qC ?_; cbv)
      | (have hz : i ≠ 0 := by ((try dsimp only [zF] at *); omega)
         obtain ⟨bb, hb'⟩ := hb hz
         refine ⟨zD om om, xL hb' om uB qC ?_⟩
         cbv)
      | (have g : au < 0 ∨ 1024 ≤ au ∨ (i ≠ 0 ∧ au ≤ pb) := by ((try dsimp only [zF] at *); omega)
         have g' := k1 g
         (refine rC ?_; cbv)
         exact zM g')
      | (have g : 0 ≤ au ∧ au < 1024 ∧ (i = 0 ∨ pb < au) := by ((try dsimp only [zF] at *); omega)
         have g' := k2 g
         exact ⟨zD om om, i + 1, ⟨(show i + 1 ≤ _ by omega), g'⟩, om, .le (by cbv; repeat' first | exact trivial | exact lR | exact zC om | apply And.intro) trivial rfl⟩)
  · have he : i = c.length := by (try rw [zA] at h5); (try dsimp only [zF] at *); omega
    rw [he, hGn] at g2
    cbv
    (refine rC ?_; cbv)
    exact yN g2
def Scp.phs (s:Scp) (j:Int):Int:=if s.onU j=true then 1 else if s.offU j=true then 2 else 0
theorem sKph (s:Scp)(j:Nat)(hs:s.sz (2^20))(hv:s.q.valid=true)(hj:j<s.q.g.us.length):zE 44 [sv s,.int .i64 (fun _=>(j:Int))] (.int .i64 (fun _=>s.phs j)):=by
 refine sF Tryz.f44 ?_;have cv:=zG3 s.q (hs.q.mono (by decide));rw[hv] at cv;have cp:=zYM s j hs;have hr:s.phs j=if s.onU j=true then 1 else if s.offU j=true then 2 else 0:=rfl
 generalize s.phs j=r at *
 generalize s.onU j=b1 at *
 generalize s.offU j=b2 at *
 clear hs hv;cbv;refine cA cv ?_;cbv;refine zG7 rfl ?_;cbv;refine z9 om ?_;cbv;refine yB (by rw[zA];(try dsimp only [zF] at *);omega) ?_;cbv;refine cA cp ?_;cbv;refine zP (fun e=>?_) (fun e=>?_)
 ·rw[if_pos e] at hr;cbv
  (refine rC ?_;cbv)
  exact zC hr.symm
 rw[if_neg (by rw[e];decide)] at hr;cbv;refine zP (fun e2=>?_) (fun e2=>?_)
 ·rw[if_pos e2] at hr;cbv
  (refine rC ?_;cbv)
  exact zC hr.symm
 ·rw[if_neg (by rw[e2];decide)] at hr;cbv
  (refine rC ?_;cbv)
  exact zC hr.symm
theorem sKra (f:A)(q:Rat)(hf:f.c.sz (2^30))(hq:Fits (2^30) q):zE 45 [av f,rv (zJ q)] (av (s6 f q)):=by
 refine sF Tryz.f45 ?_;have c:=s93 f.c (zJ q) (hf.mono (by decide)) ((zU hq).mono (by decide));rw[z6] at c;have hn:(zJ q).neg=decide (q<0):=by show decide (q.num<0)=_;rw[decide_eq_decide];have h1:=@Rat.num_nonneg q;constructor <;> intro h <;> (refine Decidable.byContradiction fun h2=>?_) <;> grind
 obtain⟨RA,hRA⟩:∃ X,s6 f q=X:=⟨_,rfl⟩;have h1:q<0->RA=⟨f.ts,zJ (f.c.q-q)⟩:=fun h=>by rw[<-hRA];unfold s6;rw[if_pos h]
 have h2:¬q<0->RA=f:=fun h=>by rw[<-hRA];unfold s6;rw[if_neg h]
 rw[hRA];clear hRA;generalize zJ (f.c.q-q)=W at *
 obtain⟨X,hX⟩:∃ X,zJ q=X:=⟨_,rfl⟩;rw[hX] at c hn ⊢;clear hX;obtain⟨ts,c1,c2,c3⟩:=f
 (try dsimp only at *)
 cbv;refine zP (fun e=>?_) (fun e=>?_)
 ·have e':q<0:=of_decide_eq_true (hn ▸ e);have g:=h1 e';subst g;cbv;refine cA c ?_;cbv
  (refine rC ?_;cbv)
  exact okA
 ·have e':¬q<0:=of_decide_eq_false (hn ▸ e);have g:=h2 e';subst g;cbv
  (refine rC ?_;cbv)
  exact okA
theorem yAF (raw:List UInt8)(g:Grp)(n:Nat)(hr:raw.length<2^38)(hg:g.sz (2^32))(hv:g.valid=true)(hn:g.vars=(n:Int))(hn2:n<=100):zE 13 [u8v raw,gv g] (fv (fdF raw n 0).1):=by
 refine sF Tryz.f13 ?_;have c0:=zST raw hr;have cv:=tV g hg;rw[if_pos hv,hn] at cv;have c1:=zC7 raw n 0 hr (xD _) hn2;simp only[fv] at *
 generalize fA (fdF raw n 0).1=W at *
 generalize (fdF raw n 0).2=b at *
 obtain⟨gn,us,os⟩:=g;clear hg hv hn;cbv;refine y0 (fun _=>7) (.refl _) rfl okA c0 trivial rfl rfl rfl rfl rfl rfl rfl rfl ?_;cbv;refine cA cv ?_;cbv;refine y0 (fun _=>7) (.refl _) rfl (by repeat' first|exact trivial|exact lR|exact rfl|apply And.intro) c1 ⟨⟨rfl,rfl⟩,trivial⟩ rfl rfl rfl rfl rfl rfl rfl rfl ?_;cbv
 (refine rC ?_;cbv)
 exact okA
end Go.Proofs.YtaeaffgjdcigoaaGreat
