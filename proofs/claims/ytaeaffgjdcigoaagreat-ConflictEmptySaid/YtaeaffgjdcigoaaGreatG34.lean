/- A part of the proof: KcL, KcM, KcP, KcR, KcT, KpE, KpG. -/
import Derived.Test.YtaeaffgjdcigoaaGreatG33
import Derived.Test.YtaeaffgjdcigoaaGreatG31
import Derived.Test.YtaeaffgjdcigoaaGreatG32
import Derived.Test.YtaeaffgjdcigoaaGreatG24
import Derived.Test.YtaeaffgjdcigoaaGreatG29
import Derived.Test.YtaeaffgjdcigoaaGreatG25
import Derived.Test.YtaeaffgjdcigoaaGreatG20
import Derived.Test.YtaeaffgjdcigoaaGreatG21
import Derived.Test.YtaeaffgjdcigoaaGreatG26
set_option linter.all false
namespace Go.Proofs.YtaeaffgjdcigoaaGreat
open Go
set_option maxRecDepth 100000
set_option maxHeartbeats 4000000
def LD {rs:List ResultVar}{r:PV}{ps ps':PS}{kept made:List (Nat×Obj')}(hn:Nat->Nat)(hw:Wk ps ps')(h3:lv r=true)(h4:uU hn ps'.objs (kept++made))(h5:ndO (z9 hn (kept++made))=true)(h6:Ww hn kept)(h:match dL ps' rs with
  |some l=>les (nE l) (ren hn r)| none=>False):RetOk rs r kept made ps:=by
 cases h1:dL ps' rs with
 |none=>rw[h1] at h;exact h.elim| some l=>rw[h1] at h;exact⟨ps',l,hn,hw,h1,dW h,h3,h4,h5,h6⟩
abbrev B0 (n:Nat):PV:=.fn 125 [.ptr n 0]
def N8 (ks:List Int):Sound 57 [.mpv 1000000] [(1000000,mpO ks)] [] (B0 1) [(1000000,mpO ks)] [(1,.box [.mpv 1000000])]:=by
 refine sF Tryz.f57 ?_;cbv;refine LD (λn=>n) (.refl _) rfl (by repeat' first|exact trivial|exact rfl|apply And.intro) (by rfl) (by repeat' first|exact trivial|exact rfl|omega|apply And.intro) ?_;cbv
 repeat' first|exact trivial|exact lR|exact rfl|apply And.intro
abbrev Hj:Prop:=∀ ks:List Int,ks.length<2^40->(∀ z,z∈ks->-9223372036854775808<=z/\z<=9223372036854775807)->Sound 56 [B0 1000001] [(1000000,mpO ks),(1000001,.box [.mpv 1000000])] [] (zlv (jY ks)) [(1000000,mpO ks),(1000001,.box [.mpv 1000000])] []
def P5:MapOk 119:=⟨3,4,by rw[uZ];rfl,by rw[uZ];rfl,by rw[uZ];rfl,by cbv⟩
def usH (n:Nat):Nat:=match nqb n 1000000 with
 |true=>2
 |false=>match nqb n 1000001 with
  |true=>7
  |false=>match nqb n 1000002 with
   |true=>6
   |false=>match nqb n 1000003 with
    |true=>8
    |false=>match nqb n 1000004 with
     |true=>11
     |false=>match nqb n 1000005 with
      |true=>12
      |false=>match nqb n 1000006 with
       |true=>10| false=>9
def Ez (h56 : Hj) (s : Scp) (l : List Mult) (hs : Psz s) (hp : Lpf s) (h : UseOk s l ([], [])) (hz : ∀ z, (z ∈ (s9 s s.lems.length l ([], [])).1 ∨ z ∈ (s9 s s.lems.length l ([], [])).2) → -9223372036854775808 ≤ z ∧ z ≤ 9223372036854775807) (hl : (s9 s s.lems.length l ([], [])).1.length < 2^40 ∧ (s9 s s.lems.length l ([], [])).2.length < 2^40) (hu : um s [] ≤ s.lems.length) :
    zD 14 [sv s, mlv l] (.tup [zlv (jY (s9 s s.lems.length l ([], [])).1), zlv (jY (s9 s s.lems.length l ([], [])).2)]) := by
  refine sF Tryz.f14 ?_
  have cu := NU s hs hp s.lems.length l ([], []) hu h
  obtain ⟨R, hR⟩ := ex (s9 s s.lems.length l ([], []))
  rw [hR] at cu hz hl ⊢
  obtain ⟨D, M⟩ := R
  dsimp only at hz hl ⊢
  have k1 := N8 D
  have k2 := N8 M
  have s1 := h56 D hl.1 (fun z g => hz z (.inl g))
  have s2 := h56 M hl.2 (fun z g => hz z (.inr g))
  generalize jY D = SD at *
  generalize jY M = SM at *
  clear hR hz hl hs hp h hu h56
  cbv
  refine ⟨P5, P5, ?_⟩
  cbv
  refine bS usH (.refl _) rfl (by repeat' first | exact trivial | exact lR | exact zB rfl | exact rfl | apply And.intro) cu (by repeat' first | exact trivial | exact lR | exact zB rfl | exact rfl | apply And.intro) rfl rfl rfl rfl rfl rfl rfl rfl ?_
  cbv
  refine rN (σ := Unit) (fun _ => ⟨[(4, zlv SD), (5, zlv SM)], []⟩) (fun _ => True) (.refl _) (by cbv) ?_ ?_
  · cbv
    repeat' first
      | exact trivial
      | (refine bS LX (.refl _) rfl ?_ k1 ?_ rfl rfl rfl rfl rfl rfl rfl rfl ?_
         · repeat' first | exact trivial | exact lR | exact rfl | apply And.intro
         · repeat' first | exact trivial | exact lR | exact rfl | apply And.intro
         cbv)
      | (refine bS LW (.refl _) rfl ?_ k2 ?_ rfl rfl rfl rfl rfl rfl rfl rfl ?_
         · repeat' first | exact trivial | exact lR | exact rfl | apply And.intro
         · repeat' first | exact trivial | exact lR | exact rfl | apply And.intro
         cbv)
      | (refine bS LX (.refl _) rfl ?_ s1 ?_ rfl rfl rfl rfl rfl rfl rfl rfl ?_
         · repeat' first | exact trivial | exact lR | exact rfl | apply And.intro
         · repeat' first | exact trivial | exact lR | exact rfl | apply And.intro
         cbv)
      | (refine bS LW (.refl _) rfl ?_ s2 ?_ rfl rfl rfl rfl rfl rfl rfl rfl ?_
         · repeat' first | exact trivial | exact lR | exact rfl | apply And.intro
         · repeat' first | exact trivial | exact lR | exact rfl | apply And.intro
         cbv)
      | exact ⟨(), trivial, .le (by cbv; exact okA) trivial rfl⟩
      | apply And.intro
  · intro _ _
    cbv
    exact rA
def CC:Hj:=λks h1 h2=>KP ks h1 h2
abbrev yQ:=Int×Bool
def ltc (l:yQ):List PV:=[iV l.1,bV l.2]
abbrev ltv (l:yQ):PV:=.agg [iV l.1,bV l.2]
abbrev jD (l:List yQ):PV:=.sl (λ_=>enc ltc l)
def xX (l:yQ):yS qZ (ltc l)=true:=rfl
def wQ (l:yQ):(ltc l).length=2:=rfl
abbrev OU (s : String) (o b : Nat) : Field := { name := s, type := 4, offset := o, embedded := false, tag := "", pkgPath := "", byteOffset := b }
def Pc:Pg.underlying 83=some (.struct (Pg.fieldsOf 83)):=by rw[uZ];kernel_rfl
def BT : (Pg.fieldsOf 83).toList = [fld "Unit" 0 0, OU "On" 1 8] := by rw [uZ]; kernel_rfl
def BS:Pg.stoodInHeld 83=false:=by rw[uZ];simp_all
theorem Uz:Pg.eqGuardType Pg.depth 83=false:=by rw[uZ];simp_all
def Gs:Pg.plainKey 4=true:=by rw[uZ];kernel_rfl
def AY:Pg.underlying 4=some .bool:=by rw[uZ];simp_all
abbrev YP (a:yQ):Array Value:=#[.int .i64 a.1,.bool a.2]
theorem UB (a b:yQ)(w:World):(Op.equalIn 10000 83 (.agg (YP a)) (.agg (YP b))).run Pg w=.ok (decide (a=b)) w:=by
 rw[show (10000:Nat)=9999+1 from rfl,run_equalIn_agg w 9999 _ _ _ Pc BS,BT];have p0:∀ (c:yQ),(part 3 (YP c) 0).run Pg w=.ok (.int .i64 c.1) w:=λc=>run_part_plain _ pX rfl;have p1:∀ (c:yQ),(part 4 (YP c) 1).run Pg w=.ok (.bool c.2) w:=λc=>run_part_plain _ Gs rfl;have q:∀ (x y:Int),(Op.equalIn 9999 3 (.int .i64 x) (.int .i64 y)).run Pg w=.ok (x == y) w:=λx y=>run_equalIn_int w 9998 _ .i64 .i64 x y FB;have q2:∀ (x y:Bool),(Op.equalIn 9999 4 (.bool x) (.bool y)).run Pg w=.ok (x == y) w:=λx y=>run_equalIn_bool w 9998 _ x y AY;have e:decide (a=b)=((a.1 == b.1)&&(a.2 == b.2)):=by grind
 rw[e];simp only[Op.eqFields,Sem.run_bind,Sem.run_ite,p0,p1,q,q2,Result.andThen_ok,Sem.run_pure];grind
def Q2 {x y:Operand}{a b:yQ}{K:PV->Prop}(hK:K (bV (decide (a=b)))):EqS .eql 83 x y [.i λ_=>a.1,.b λ_=>a.2] [.i λ_=>b.1,.b λ_=>b.2] K:=by refine⟨⟨decide (a=b),λw=>?_,hK⟩⟩;show (do eqGuard .eql 83 x y (.agg (YP a)) (.agg (YP b));binOp .eql 83 (.agg (YP a)) (.agg (YP b)):Sem Value).run Pg w=_;grind [Sem.run_bind,run_eqGuard_agg,Uz,Result.andThen_ok,run_eql_struct,UB]
def BI {x y:Operand}{a b:yQ}{K:PV->Prop}(hK:K (bV (!(decide (a=b))))):EqS .neq 83 x y [.i λ_=>a.1,.b λ_=>a.2] [.i λ_=>b.1,.b λ_=>b.2] K:=by refine⟨⟨!(decide (a=b)),λw=>?_,hK⟩⟩;show (do eqGuard .neq 83 x y (.agg (YP a)) (.agg (YP b));binOp .neq 83 (.agg (YP a)) (.agg (YP b)):Sem Value).run Pg w=_;grind [Sem.run_bind,run_eqGuard_agg,Uz,Result.andThen_ok,run_neq_struct,UB]
def N7 (l:yQ):zD 67 [ltv l] (ltv (l.1,!l.2)):=by
 refine sF Tryz.f67 ?_;obtain⟨u,b⟩:=l;cbv
 (refine rC ?_;cbv)
 exact⟨lR,vM rfl,trivial⟩
def EI (l:yQ):zD 74 [ltv l] (ltv (l.1,!l.2)):=by
 refine sF Tryz.f74 ?_;obtain⟨u,b⟩:=l;cbv
 (refine rC ?_;cbv)
 exact⟨lR,vM rfl,trivial⟩
def jE (d:Dec):Option yQ:=if d.k=1\/d.k=2 then some (d.i,decide (d.k=1)) else none
def EP (d : Dec) : zD 73 [dv d] (.tup [ltv ((jE d).getD (0, false)), bV ((jE d).isSome)]) := by
  refine sF Tryz.f73 ?_
  obtain ⟨V, hV⟩ := ex (((jE d).getD (0, false)).1)
  obtain ⟨B, hB⟩ := ex (((jE d).getD (0, false)).2)
  obtain ⟨S, hS⟩ := ex ((jE d).isSome)
  have k1 : (d.k = 1 ∨ d.k = 2) → V = d.i ∧ B = decide (d.k = 1) ∧ S = true := fun h => by rw [← hV, ← hB, ← hS]; unfold jE; grind
  have k2 : ¬ (d.k = 1 ∨ d.k = 2) → V = 0 ∧ B = false ∧ S = false := fun h => by rw [← hV, ← hB, ← hS]; unfold jE; grind
  unfold ltv
  rw [hV, hB, hS]
  obtain ⟨k, i, x⟩ := d
  dsimp only at *
  clear hV hB hS
  cbv
  repeat' first
    | (refine zQ (fun e => ?_) (fun e => ?_) <;> cbv)
    | (refine zE (fun e => ?_) (fun e => ?_) <;> cbv)
    | (have g : k = 1 ∨ k = 2 := by (exact om)
       obtain ⟨q1, q2, q3⟩ := k1 g
       subst q1 q2 q3
       (refine rC ?_; cbv)
       exact okA)
    | (have g : ¬ (k = 1 ∨ k = 2) := by (exact om)
       obtain ⟨q1, q2, q3⟩ := k2 g
       subst q1 q2 q3
       (refine rC ?_; cbv)
       exact okA)
def Ey (d:Dec):zD 140 [dv d] (bV (decide (d.k=1\/d.k=2))):=by
 refine sF Tryz.f140 ?_;obtain⟨k,i,x⟩:=d;cbv;refine zQ (λe=>?_) (λe=>?_)
 ·cbv
  (refine rC ?_;cbv)
  exact yH (decide_eq_true (.inl e))
 ·cbv
  (refine rC ?_;cbv)
  exact z4 (by grind)
def EQ (d:Dec):zD 66 [dv d] (.tup [ltv ((jE d).getD (0,false)),bV ((jE d).isSome)]):=by
 refine sF Tryz.f66 ?_;have cu:=Ey d;obtain⟨V,hV⟩:=ex (((jE d).getD (0,false)).1);obtain⟨B,hB⟩:=ex (((jE d).getD (0,false)).2);obtain⟨S,hS⟩:=ex ((jE d).isSome);have k1:(d.k=1\/d.k=2)->V=d.i/\B=decide (d.k=1)/\S=true:=λh=>by rw[<-hV,<-hB,<-hS];unfold jE;grind
 have k2:¬(d.k=1\/d.k=2)->V=0/\B=false/\S=false:=λh=>by rw[<-hV,<-hB,<-hS];unfold jE;grind
 unfold ltv;rw[hV,hB,hS];obtain⟨k,i,x⟩:=d;dsimp only at *;clear hV hB hS;cbv;refine cA cu ?_;cbv;refine zP (λe=>?_) (λe=>?_);{obtain⟨q1,q2,q3⟩:=k1 (of_decide_eq_true e);subst q1 q2 q3;cbv;exact rA};{obtain⟨q1,q2,q3⟩:=k2 (of_decide_eq_false e);subst q1 q2 q3;cbv;exact rA}
def EZ (l:yQ):zD 91 [ltv l] (dv ⟨if l.2=true then 1 else 2,l.1,R0⟩):=by
 refine sF Tryz.f91 ?_;obtain⟨u,b⟩:=l;cbv;refine zP (λe=>?_) (λe=>?_)
 ·cbv
  (refine rC ?_;cbv)
  exact⟨zB (by grind),lR,zK rfl,yX rfl,yX rfl,trivial⟩
 ·cbv
  (refine rC ?_;cbv)
  exact⟨zB (by grind),lR,zK rfl,yX rfl,yX rfl,trivial⟩
def ET (c:List yQ)(x:yQ)(hc:c.length<2^38):zD 192 [jD c,ltv x] (bV (decide (x∈c))):=by
 refine sF Tryz.f192 ?_;obtain⟨r,hr⟩:=ex (decide (x∈c));have hr0:r=decide (x∈c.drop 0):=hr.symm;rw[hr];obtain⟨D,hD⟩:∃ D:List yQ->Bool,∀ l,D l=decide (x∈l):=⟨_,λ_=>rfl⟩;have hDn:D []=false:=by grind
 have hDc:∀ a l,D (a::l)=(decide (a=x) || D l):=λa l=>by grind
 rw[<-hD] at hr0;clear hr hD;obtain⟨xu,xb⟩:=x;cbv;refine zW (σ:=Nat) (λi=>⟨[(0,jD c),(3,.ptr 3 0),(5,iV i)],[(3,.box [iV xu,bV xb])]⟩) (λi=>i<=c.length/\r=D (c.drop i)) (λi=>c.length-i) 0 ⟨yU _,hr0⟩ (wkZ) ?_;clear hr0;intro i hi;obtain⟨g1,g2⟩:=hi;cbv;refine zE (λh5=>?_) (λh5=>?_)
 ·have hlt:=uL h5;obtain⟨a,ha⟩:=zO hlt;rw[zU ha,hDc] at g2;obtain⟨au,ab⟩:=a;cbv;refine zM 6 (by cbv) ?_;cbv;refine yB ha xX wQ ?_;cbv;refine Q2 (a:=(au,ab)) (b:=(xu,xb)) ?_;generalize decide (((au,ab):yQ)=(xu,xb))=q at *;cbv;refine zP (λe=>?_) (λe=>?_)
  ·rw[e,Vp] at g2;cbv
   (refine rC ?_;cbv)
   exact yH g2
  {rw[e,s6] at g2;cbv;exact⟨zC om om,i+1,⟨om,g2⟩,om,wkZ⟩}
 ·have he:=kU h5 g1;rw[he,wD,hDn] at g2;cbv
  (refine rC ?_;cbv)
  exact zK g2
def E0 (a b:List yQ)(ha:a.length<2^38)(hb:b.length<2^38):zD 77 [jD a,jD b] (bV (decide (a=b))):=by
 refine sF Tryz.f77 ?_;obtain⟨r,hr⟩:=ex (decide (a=b));have h1:a.length≠b.length->r=false:=λh=>by grind
 have h2:∀ (i:Nat) (x y:yQ),a[i]?=some x->b[i]?=some y->x≠y->r=false:=λi x y g1 g2 h=>by grind
 have h3:a.length=b.length->(∀ i:Nat,i<a.length->a[i]?=b[i]?)->r=true:=λh h'=>by rw[<-hr];exact decide_eq_true (List.ext_getElem? λi=>by grind)
 rw[hr];clear hr;cbv;refine zE (λe=>?_) (λe=>?_)
 rotate_left
 ·cbv
  (refine rC ?_;cbv)
  exact zK (h1 (by simp only[zA] at e;exact om))
 have e':a.length=b.length:=by simp only[zA] at e;exact om
 cbv;refine zW (σ:=Nat) (λi=>⟨[(0,jD a),(1,jD b),(5,iV i)],[]⟩) (λi=>i<=a.length/\∀ k,k<i->a[k]?=b[k]?) (λi=>a.length-i) 0 ⟨yU _,λk h=>absurd h oM⟩ (.le okZ trivial rfl) ?_;intro i hi;obtain⟨g1,g2⟩:=hi;cbv;refine zE (λh5=>?_) (λh5=>?_)
 ·have hlt:=uL h5;obtain⟨x,hx⟩:=zO hlt;obtain⟨y,hy⟩:=zO (l:=b) (i:=i) oM;have h2':=h2 i x y hx hy;obtain⟨xu,xb⟩:=x;obtain⟨yu,yb⟩:=y;cbv;refine zM 9 (by cbv) ?_;cbv;refine yB hx xX wQ ?_;cbv;refine yB hy xX wQ ?_;cbv;refine BI (a:=(xu,xb)) (b:=(yu,yb)) ?_;cbv;refine zP (λe2=>?_) (λe2=>?_)
  ·(have e3:((xu,xb):yQ)≠(yu,yb):=λh=>by grind);cbv
   (refine rC ?_;cbv)
   exact zK (h2' e3)
  ·(have e3:((xu,xb):yQ)=(yu,yb):=by grind);cbv
   exact⟨zC om om,i+1,⟨om,λk hk=>by grind⟩,om,.le okZ trivial rfl⟩
 ·have hi:=kU h5 g1;cbv
  (refine rC ?_;cbv)
  exact yH (h3 e' (by grind))
def clG:Option Int->List yQ->Bool
 |_,[]=>true| p,a::r=>decide (0<=a.1/\a.1<1024/\(p.all λq=>decide (q<a.1))=true)&&clG (some a.1) r
def pS (c:List yQ) (i:Nat):Option Int:=if i=0 then none else (c[i-1]?).map Prod.fst
def JV {c:List yQ}{i:Nat}{a:yQ}(h:c[i]?=some a):∃ pb:Int,((a.1<0\/1024<=a.1\/(i≠0/\a.1<=pb))->clG (pS c i) (c.drop i)=false) /\ ((0<=a.1/\a.1<1024/\(i=0\/pb<a.1))->clG (pS c i) (c.drop i)=clG (pS c (i+1)) (c.drop (i+1)))/\(i≠0->∃ bb,c[i-1]?=some (pb,bb)):=by
 have hn:pS c (i+1)=some a.1:=by unfold pS;grind
 rw[hn,zU h];by_cases h0:i=0;{subst h0;refine⟨0,λg=>?_,λg=>?_,λg=>absurd rfl g⟩;{show (decide _&&_)=false;grind};{show (decide _&&_)=_;rw[decide_eq_true ⟨g.1,g.2.1,rfl⟩];rfl}}
 ·(have hi:i<c.length:=(xP.1 h).1;obtain⟨⟨pb,bb⟩,hb⟩:=zO (l:=c) (i:=i-1) oM;have hp:pS c i=some pb:=by unfold pS;grind);rw[hp]
  refine⟨pb,λg=>?_,λg=>?_,λ_=>⟨bb,hb⟩⟩;{show (decide _&&_)=false;grind};{show (decide _&&_)=_;grind}
def Ew (c : List yQ) (hc : c.length < 2^38) : zD 82 [jD c] (bV (clG none c)) := by
  refine sF Tryz.f82 ?_
  obtain ⟨r, hr⟩ := ex (clG none c)
  have hr0 : r = clG (pS c 0) (c.drop 0) := hr.symm
  rw [hr]
  obtain ⟨G, hG⟩ : ∃ G : Nat → Bool, ∀ i, G i = clG (pS c i) (c.drop i) := ⟨_, fun _ => rfl⟩
  rw [← hG] at hr0
  have hGn : G c.length = true := by rw [hG, wD]; cases pS c c.length <;> rfl
  have key := fun i a (h : c[i]? = some a) => JV h
  simp only [← hG] at key
  clear hr hG
  cbv
  refine zW (σ := Nat) (fun i => ⟨[(0, jD c), (3, iV i)], []⟩) (fun i => i ≤ c.length ∧ r = G i) (fun i => c.length - i) 0 ⟨yU _, hr0⟩ (.le (by cbv; repeat' first | exact trivial | exact lR | exact zB (by rw [zA]) | apply And.intro) trivial rfl) ?_
  clear hr0
  intro i hi
  obtain ⟨g1, g2⟩ := hi
  cbv
  refine zE (fun h5 => ?_) (fun h5 => ?_)
  · have hlt : i < c.length := by (try rw [zA] at h5); exact om
    obtain ⟨a, ha⟩ := zO hlt
    obtain ⟨pb, k1, k2, hb⟩ := key i a ha
    rw [← g2] at k1 k2
    clear key
    obtain ⟨au, ab⟩ := a
    dsimp only at k1 k2 hb
    cbv
    refine zM 32 (by cbv) ?_
    cbv
    repeat' first
      | (refine zQ (fun x => ?_) (fun x => ?_) <;> cbv)
      | (refine zE (fun x => ?_) (fun x => ?_) <;> cbv)
      | (refine yB ha xX wQ ?_; cbv)
      | (have hz : i ≠ 0 := by (exact om)
         obtain ⟨bb, hb'⟩ := hb hz
         refine ⟨zC om om, y6 hb' (by exact om) xX wQ ?_⟩
         cbv)
      | (have g : au < 0 ∨ 1024 ≤ au ∨ (i ≠ 0 ∧ au ≤ pb) := by (exact om)
         have g' := k1 g
         (refine rC ?_; cbv)
         exact zK g')
      | (have g : 0 ≤ au ∧ au < 1024 ∧ (i = 0 ∨ pb < au) := by (exact om)
         have g' := k2 g
         exact ⟨zC om om, i + 1, ⟨(show i + 1 ≤ _ by omega), g'⟩, om, .le (by cbv; repeat' first | exact trivial | exact lR | exact zB om | apply And.intro) trivial rfl⟩)
  · have he : i = c.length := by (try rw [zA] at h5); exact om
    rw [he, hGn] at g2
    cbv
    (refine rC ?_; cbv)
    exact yH g2
def N6 (c : List yQ) (hc : c.length < 2^38) : zD 81 [jD c] (bV (clG none c)) := by
  refine sF Tryz.f81 ?_
  obtain ⟨r, hr⟩ := ex (clG none c)
  have hr0 : r = clG (pS c 0) (c.drop 0) := hr.symm
  rw [hr]
  obtain ⟨G, hG⟩ : ∃ G : Nat → Bool, ∀ i, G i = clG (pS c i) (c.drop i) := ⟨_, fun _ => rfl⟩
  rw [← hG] at hr0
  have hGn : G c.length = true := by rw [hG, wD]; cases pS c c.length <;> rfl
  have key := fun i a (h : c[i]? = some a) => JV h
  simp only [← hG] at key
  clear hr hG
  cbv
  refine zW (σ := Nat) (fun i => ⟨[(0, jD c), (5, jD c), (6, iV c.length), (7, iV i)], []⟩) (fun i => i ≤ c.length ∧ r = G i) (fun i => c.length - i) 0 ⟨yU _, hr0⟩ (.le (by cbv; repeat' first | exact trivial | exact lR | exact zB (by rw [zA]) | apply And.intro) trivial rfl) ?_
  clear hr0
  intro i hi
  obtain ⟨g1, g2⟩ := hi
  cbv
  refine zE (fun h5 => ?_) (fun h5 => ?_)
  · have hlt : i < c.length := by (try rw [zA] at h5); exact om
    obtain ⟨a, ha⟩ := zO hlt
    obtain ⟨pb, k1, k2, hb⟩ := key i a ha
    rw [← g2] at k1 k2
    clear key
    obtain ⟨au, ab⟩ := a
    dsimp only at k1 k2 hb
    cbv
    refine yB ha xX wQ ?_
    cbv
    refine zM 23 (by cbv) ?_
    cbv
    repeat' first
      | (refine zQ (fun x => ?_) (fun x => ?_) <;> cbv)
      | (refine zE (fun x => ?_) (fun x => ?_) <;> cbv)
      | (refine yB ha xX wQ ?_; cbv)
      | (have hz : i ≠ 0 := by (exact om)
         obtain ⟨bb, hb'⟩ := hb hz
         refine ⟨zC om om, y6 hb' (by exact om) xX wQ ?_⟩
         cbv)
      | (have g : au < 0 ∨ 1024 ≤ au ∨ (i ≠ 0 ∧ au ≤ pb) := by (exact om)
         have g' := k1 g
         (refine rC ?_; cbv)
         exact zK g')
      | (have g : 0 ≤ au ∧ au < 1024 ∧ (i = 0 ∨ pb < au) := by (exact om)
         have g' := k2 g
         exact ⟨zC om om, i + 1, ⟨(show i + 1 ≤ _ by omega), g'⟩, om, .le (by cbv; repeat' first | exact trivial | exact lR | exact zB om | apply And.intro) trivial rfl⟩)
  · have he : i = c.length := by (try rw [zA] at h5); exact om
    rw [he, hGn] at g2
    cbv
    (refine rC ?_; cbv)
    exact yH g2
def Scp.phs (s:Scp) (j:Int):Int:=if s.onU j=true then 1 else if s.offU j=true then 2 else 0
def EG (s:Scp)(j:Nat)(hs:s.sz (2^20))(hv:s.q.valid=true)(hj:j<s.q.g.us.length):zD 44 [sv s,iV j] (iV (s.phs j)):=by
 refine sF Tryz.f44 ?_;have cv:=oK s.q (hs.q.mono (by decide));rw[hv] at cv;have cp:=Mf s j hs;have hr:s.phs j=if s.onU j=true then 1 else if s.offU j=true then 2 else 0:=rfl
 generalize s.phs j=r at *;generalize s.onU j=b1 at *;generalize s.offU j=b2 at *;clear hs hv;cbv;refine cA cv ?_;cbv;refine rR rfl ?_;cbv;refine yC (by exact om) ?_;cbv;refine yE (by rw[zA];exact om) ?_;cbv;refine cA cp ?_;cbv;refine zP (λe=>?_) (λe=>?_)
 ·rw[if_pos e] at hr;cbv
  (refine rC ?_;cbv)
  exact zB hr.symm
 rw[if_neg (by rw[e];decide)] at hr;cbv;refine zP (λe2=>?_) (λe2=>?_)
 ·rw[if_pos e2] at hr;cbv
  (refine rC ?_;cbv)
  exact zB hr.symm
 ·rw[if_neg (by rw[e2];decide)] at hr;cbv
  (refine rC ?_;cbv)
  exact zB hr.symm
def EF (f:A)(q:Rat)(hf:f.c.sz (2^30))(hq:Fits (2^30) q):zD 45 [av f,rv (zG q)] (av (dS f q)):=by
 refine sF Tryz.f45 ?_;have c:=s93 f.c (zG q) (hf.mono (by decide)) ((zT hq).mono (by decide));rw[zV] at c;have hn:(zG q).neg=decide (q<0):=by show decide (q.num<0)=_;rw[decide_eq_decide];have h1:=@Rat.num_nonneg q;constructor <;> intro h <;> (refine Decidable.byContradiction λh2=>?_) <;> grind
 obtain⟨RA,hRA⟩:=ex (dS f q);have h1:q<0->RA=⟨f.ts,zG (f.c.q-q)⟩:=λh=>by rw[<-hRA];unfold dS;rw[if_pos h]
 have h2:¬q<0->RA=f:=λh=>by rw[<-hRA];unfold dS;rw[if_neg h]
 rw[hRA];clear hRA;generalize zG (f.c.q-q)=W at *;obtain⟨X,hX⟩:=ex (zG q);rw[hX] at c hn ⊢;clear hX;obtain⟨ts,c1,c2,c3⟩:=f
 (try dsimp only at *)
 cbv;refine zP (λe=>?_) (λe=>?_);{have e':q<0:=of_decide_eq_true (hn ▸ e);have g:=h1 e';subst g;cbv;refine cA c ?_;cbv;exact rA};{have e':¬q<0:=of_decide_eq_false (hn ▸ e);have g:=h2 e';subst g;cbv;exact rA}

def rnI (to:List Int) (x:Int):Int:=if 0<x/\x<=to.length then (to[(x-1).toNat]?).getD 0 else x
def rnM (to:List Int) (m:Mult):Mult:=⟨⟨m.row.k,m.row.i,rnI to m.row.lo,rnI to m.row.hi⟩,m.c⟩
def Bc {to:List Int}{x:Int}(h:0<x/\x<=to.length):to[(x-1).toNat]?=some (rnI to x):=by unfold rnI;rw[if_pos h];obtain⟨y,hy⟩:=zO (l:=to) (i:=(x-1).toNat) oM;rw[hy];rfl
def EE (l : List Mult) (d : List Int) (hl : l.length < 2^38) (hd : d.length < 2^38) : Sound 76 [mlv l, oV 1000000 1 d.length] [(1000000, aV 1 (enc ic d))] [] (mlv (l.map (rnM d))) [(1000000, aV 1 (enc ic d))] [] := by
  refine sF Tryz.f76 ?_
  obtain ⟨J, hJ⟩ : ∃ J : Nat → List Mult, ∀ i, J i = (l.take i).map (rnM d) := ⟨_, fun _ => rfl⟩
  have hJ0 : J 0 = [] := by rw [hJ]; rfl
  have hJs : ∀ i m, l[i]? = some m → J (i + 1) = J i ++ [rnM d m] := fun i m h => by rw [hJ, hJ, dI, h]; simp
  have hJl : ∀ i, i ≤ l.length → (J i).length = i := fun i h => by rw [hJ, y8, kV]; omega
  have hR : l.map (rnM d) = J l.length := by rw [hJ, wW]
  rw [hR]
  clear hJ hR
  cbv
  refine zW (σ := Nat) (fun i => ⟨[(0, mlv l), (1, oV 1000000 1 d.length), (5, oV 5 7 ((J i).length)), (6, iV i)], [(1000000, aV 1 (enc ic d)), (5, aV 7 (enc mc (J i)))]⟩)
    (fun i => i ≤ l.length) (fun i => l.length - i) 0 (yU _) (.trans (.adoptT 5 7 5 rfl rfl) (.le ?_ ?_ rfl)) ?_
  · cbv; exact ⟨lR, lR, zZ rfl (by rw [hJ0]; rfl), lR, trivial⟩
  · cbv; exact ⟨zH rfl, zH (by rw [hJ0]; rfl), trivial⟩
  intro i hi
  cbv
  refine zE (fun h5 => ?_) (fun h5 => ?_)
  · have hlt := uL h5
    obtain ⟨m, hm⟩ := zO hlt
    have hs := hJs i m hm
    have hln := hJl i hi
    obtain ⟨⟨k, ri, lo, hi'⟩, c⟩ := m
    obtain ⟨lo2, hlo⟩ := ex (rnI d lo)
    obtain ⟨hi2, hhi⟩ := ex (rnI d hi')
    have a1 : 0 < lo ∧ lo ≤ d.length → d[(lo - 1).toNat]? = some lo2 := fun h => by rw [← hlo]; exact Bc h
    have a2 : ¬ (0 < lo ∧ lo ≤ d.length) → lo2 = lo := fun h => by rw [← hlo]; exact if_neg h
    have b1 : 0 < hi' ∧ hi' ≤ d.length → d[(hi' - 1).toNat]? = some hi2 := fun h => by rw [← hhi]; exact Bc h
    have b2 : ¬ (0 < hi' ∧ hi' ≤ d.length) → hi2 = hi' := fun h => by rw [← hhi]; exact if_neg h
    have hs' : J (i + 1) = J i ++ [⟨⟨k, ri, lo2, hi2⟩, c⟩] := by rw [hs, ← hlo, ← hhi]; rfl
    generalize hA : J i = A at *
    clear hs hlo hhi hJs hJl hJ0
    cbv
    refine yB hm wY xN ?_
    cbv
    by_cases cA : 0 < lo ∧ lo ≤ d.length
    · have gA := a1 cA
      by_cases cB : 0 < hi' ∧ hi' ≤ d.length
      · have gB := b1 cB
        repeat' first
          | (exfalso; (try dsimp only [zY] at *); simp only [zA] at *; omega)
          | (refine zQ (fun x => ?_) (fun x => ?_) <;> cbv)
          | (refine zE (fun x => ?_) (fun x => ?_) <;> cbv)
          | (refine ⟨zC om om, yZ om om, ?_⟩
             cbv
             refine uM (l := d) (lo - 1).toNat (by exact om) (by exact om) kY dC (fun t ht => ?_)
             obtain rfl := vO (gA.symm.trans ht)
             cbv)
          | (refine ⟨zC om om, yZ om om, ?_⟩
             cbv
             refine uM (l := d) (hi' - 1).toNat (by exact om) (by exact om) kY dC (fun t ht => ?_)
             obtain rfl := vO (gB.symm.trans ht)
             cbv)
          | (refine bQ ?_; cbv)
          | (refine wU kD rfl rfl rfl (by rw [zA]) rfl ⟨by simp [zL, xE]⟩ (z5 (by simp [zL, zA] <;> omega) (by simp [zL, zA] at *; exact om)) rfl ?_
             cbv
             refine ⟨zC om om, i + 1, (show i + 1 ≤ _ by omega), om, .le ?_ ?_ rfl⟩
             · cbv; exact ⟨lR, lR, zZ rfl (by rw [hs', zA]; simp [zL]), zB om, trivial⟩
             · cbv; exact ⟨zH rfl, zH (by rw [hs', ← xZ]; rfl), trivial⟩)
      · have gB := b2 cB
        subst gB
        repeat' first
          | (exfalso; (try dsimp only [zY] at *); simp only [zA] at *; omega)
          | (refine zQ (fun x => ?_) (fun x => ?_) <;> cbv)
          | (refine zE (fun x => ?_) (fun x => ?_) <;> cbv)
          | (refine ⟨zC om om, yZ om om, ?_⟩
             cbv
             refine uM (l := d) (lo - 1).toNat (by exact om) (by exact om) kY dC (fun t ht => ?_)
             obtain rfl := vO (gA.symm.trans ht)
             cbv)
          | (refine ⟨zC om om, yZ om om, ?_⟩
             cbv
             refine uM (l := d) (hi' - 1).toNat (by exact om) (by exact om) kY dC (fun t ht => ?_)
             obtain rfl := vO (gB.symm.trans ht)
             cbv)
          | (refine bQ ?_; cbv)
          | (refine wU kD rfl rfl rfl (by rw [zA]) rfl ⟨by simp [zL, xE]⟩ (z5 (by simp [zL, zA] <;> omega) (by simp [zL, zA] at *; exact om)) rfl ?_
             cbv
             refine ⟨zC om om, i + 1, (show i + 1 ≤ _ by omega), om, .le ?_ ?_ rfl⟩
             · cbv; exact ⟨lR, lR, zZ rfl (by rw [hs', zA]; simp [zL]), zB om, trivial⟩
             · cbv; exact ⟨zH rfl, zH (by rw [hs', ← xZ]; rfl), trivial⟩)
    · have gA := a2 cA
      subst gA
      by_cases cB : 0 < hi' ∧ hi' ≤ d.length
      · have gB := b1 cB
        repeat' first
          | (exfalso; (try dsimp only [zY] at *); simp only [zA] at *; omega)
          | (refine zQ (fun x => ?_) (fun x => ?_) <;> cbv)
          | (refine zE (fun x => ?_) (fun x => ?_) <;> cbv)
          | (refine ⟨zC om om, yZ om om, ?_⟩
             cbv
             refine uM (l := d) (lo - 1).toNat (by exact om) (by exact om) kY dC (fun t ht => ?_)
             obtain rfl := vO (gA.symm.trans ht)
             cbv)
          | (refine ⟨zC om om, yZ om om, ?_⟩
             cbv
             refine uM (l := d) (hi' - 1).toNat (by exact om) (by exact om) kY dC (fun t ht => ?_)
             obtain rfl := vO (gB.symm.trans ht)
             cbv)
          | (refine bQ ?_; cbv)
          | (refine wU kD rfl rfl rfl (by rw [zA]) rfl ⟨by simp [zL, xE]⟩ (z5 (by simp [zL, zA] <;> omega) (by simp [zL, zA] at *; exact om)) rfl ?_
             cbv
             refine ⟨zC om om, i + 1, (show i + 1 ≤ _ by omega), om, .le ?_ ?_ rfl⟩
             · cbv; exact ⟨lR, lR, zZ rfl (by rw [hs', zA]; simp [zL]), zB om, trivial⟩
             · cbv; exact ⟨zH rfl, zH (by rw [hs', ← xZ]; rfl), trivial⟩)
      · have gB := b2 cB
        subst gB
        repeat' first
          | (exfalso; (try dsimp only [zY] at *); simp only [zA] at *; omega)
          | (refine zQ (fun x => ?_) (fun x => ?_) <;> cbv)
          | (refine zE (fun x => ?_) (fun x => ?_) <;> cbv)
          | (refine ⟨zC om om, yZ om om, ?_⟩
             cbv
             refine uM (l := d) (lo - 1).toNat (by exact om) (by exact om) kY dC (fun t ht => ?_)
             obtain rfl := vO (gA.symm.trans ht)
             cbv)
          | (refine ⟨zC om om, yZ om om, ?_⟩
             cbv
             refine uM (l := d) (hi' - 1).toNat (by exact om) (by exact om) kY dC (fun t ht => ?_)
             obtain rfl := vO (gB.symm.trans ht)
             cbv)
          | (refine bQ ?_; cbv)
          | (refine wU kD rfl rfl rfl (by rw [zA]) rfl ⟨by simp [zL, xE]⟩ (z5 (by simp [zL, zA] <;> omega) (by simp [zL, zA] at *; exact om)) rfl ?_
             cbv
             refine ⟨zC om om, i + 1, (show i + 1 ≤ _ by omega), om, .le ?_ ?_ rfl⟩
             · cbv; exact ⟨lR, lR, zZ rfl (by rw [hs', zA]; simp [zL]), zB om, trivial⟩
             · cbv; exact ⟨zH rfl, zH (by rw [hs', ← xZ]; rfl), trivial⟩)
  · have hi' := kU h5 hi
    subst hi'
    generalize J l.length = A at *
    cbv
    refine oS (.trans (Wk.sel _ [4] [5, 1000000] rfl) (.frz 5 rfl rfl ?_ ?_)) rfl rfl rfl rfl ?_
    · cbv; exact ⟨z8 (by simp [zA]), trivial⟩
    · cbv
    cbv
    exact zS (by rw [xM, yW (by simp [zA])])
def Ov (D N:Nat) (q:Rat):Prop:=∃ z:Int,q*((D:Int):Rat)=(z:Rat)/\z.natAbs<B^N
theorem Ov.mono {D N M:Nat}{q:Rat}(h:Ov D N q)(hm:N<=M):Ov D M q:=by obtain⟨z,h1,h2⟩:=h;exact⟨z,h1,uR h2 (dH w8 hm)⟩
theorem Ov.zero {D N:Nat}:Ov D N 0:=⟨0,by grind,Nat.pow_pos w8⟩
theorem Ov.add {D N:Nat}{a b:Rat}(ha:Ov D N a)(hb:Ov D N b):Ov D (N+1) (a+b):=by obtain⟨y,h1,h2⟩:=ha;obtain⟨z,h3,h4⟩:=hb;refine⟨y+z,by grind,?_⟩;grind [B]
theorem Ov.mul {D E N M:Nat}{a b:Rat}(ha:Ov D N a)(hb:Ov E M b):Ov (D*E) (N+M) (a*b):=by obtain⟨y,h1,h2⟩:=ha;obtain⟨z,h3,h4⟩:=hb;refine⟨y*z,?_,by rw[eV];exact x7 h2 h4⟩;grind
theorem Ov.neg {D N:Nat}{a:Rat}(ha:Ov D N a):Ov D N (-a):=by obtain⟨y,h1,h2⟩:=ha;exact⟨-y,by grind,by omega⟩
theorem Ov.up {D E N M:Nat}{q:Rat}(h:Ov D N q)(hE:E<B^M):Ov (D*E) (N+M) q:=by obtain⟨z,h1,h2⟩:=h;refine⟨z*E,?_,by rw[eV,Yk];exact x7 h2 hE⟩;grind
def Bn (q:Rat):q*((q.den:Int):Rat)=(q.num:Rat):=by
 have h:q=mkRat q.num q.den:=(Rat.mkRat_self q).symm;have h0:((q.den:Int):Rat)≠0:=λe=>q.den_nz (by simp_all)
 conv=>lhs;lhs;rw[h,Rat.mkRat_eq_div]
 exact Rat.div_mul_cancel h0
theorem Fits.ov {k:Nat}{q:Rat}(h:Fits k q):Ov q.den k q:=⟨q.num,Bn q,h.num⟩
theorem Ov.fits {D N:Nat}{q:Rat}(h0:0<D)(hD:D<B^N)(h:Ov D N q):Fits N q:=by
 obtain⟨z,h1,h2⟩:=h;have hz:((D:Int):Rat)≠0:=λe=>by have:=Rat.intCast_inj.1 (e.trans (by rfl:(0:Rat)=((0:Int):Rat)));omega
 have e:q=mkRat z D:=by rw[Rat.mkRat_eq_div];show q=(z:Rat)/((D:Int):Rat);grind
 grind [sR]
def Bv {e y:Int}{N:Nat}{q:Rat}(h:q*(e:Rat)=(y:Rat))(hy:y.natAbs<B^N):Ov e.natAbs N q:=by
 rcases Int.natAbs_eq e with g|g;{exact⟨y,by grind,hy⟩}
 ·(refine⟨-y,?_,by omega⟩;have g2:((e.natAbs:Int))=-e:=by omega);rw[g2,Rat.intCast_neg,Rat.intCast_neg,<-h]
  grind
def F.cd (f:F) (N:Nat):Prop:=∃ D:Nat,0<D/\D<B^N/\(∀ w,Ov D N (co f.ts w))/\Ov D N f.c
theorem F.cd.mono {f:F}{N M:Nat}(h:f.cd N)(hm:N<=M):f.cd M:=by obtain⟨D,h0,h1,h2,h3⟩:=h;exact⟨D,h0,uR h1 (dH w8 hm),λw=>(h2 w).mono hm,h3.mono hm⟩
theorem F.cd.cof {f:F}{N:Nat}(h:f.cd N)(w:Int):Fits N (co f.ts w):=by obtain⟨D,h0,h1,h2,h3⟩:=h;exact (h2 w).fits h0 h1
theorem F.cd.fl {f:F}{N n:Nat}(h:f.cd N)(hc:Cn f.ts)(hl:f.ts.length<=n):f.fl N n:=by refine⟨λt ht=>?_,?_,hl⟩;{have:=h.cof t.1;rw[hc.co_mem ht] at this;omega};{obtain⟨D,h0,h1,h2,h3⟩:=h;exact h3.fits h0 h1}
theorem F.cd.pos {f:F}{N:Nat}(h:f.cd N):1<=N:=by
 obtain⟨D,h0,h1,h2,h3⟩:=h;cases N with
 |zero=>grind| succ n=>omega
def AN {hi:Int}:∀ {l:List (Int×Rat)} {lo:Int},Cn l->(∀ t,t∈l->lo<=t.1/\t.1<hi)->lo<=hi->(l.length:Int)<=hi-lo
 |[],lo,_,_,h=>by grind| t::r,lo,hc,hv,h=>by obtain⟨h1,h2⟩:=hv t xV;have:=AN (hi:=hi) (l:=r) (lo:=t.1+1) hc.tail (λu hu=>by have g1:=hc.lt u hu;grind) oM;grind
theorem F.wf.len {f:F}{n:Nat}(h:f.wf (n:Int)):f.ts.length<=n:=by have:=AN h.cn h.v (by omega:(0:Int)<=(n:Int));omega
theorem F.cd.subst {f g:F}{v:Int}{N M:Nat}(hc:Cn f.ts)(hf:f.cd N)(hg:g.cd M):(f.subst v g).cd (N+M+1):=by
 obtain⟨D,d0,d1,d2,d3⟩:=hf;obtain⟨E,e0,e1,e2,e3⟩:=hg;refine⟨D*E,Yi d0 e0,uR (x7 d1 e1) (dH w8 oM),λw=>?_,?_⟩
 ·(have h2:Ov (D*E) (N+M) (co g.ts w*co f.ts v):=by rw[Rat.mul_comm];exact (d2 v).mul (e2 w));unfold F.subst
  rw[WX,bG];refine Ov.add ?_ h2;show Ov _ _ (co (xK v _ false f.ts) w);rw[Zv w hc];split;{rename_i e;rw[<-e,show co f.ts v+-(co f.ts v)=0 by grind];exact Ov.zero};{rw[Rat.add_zero];exact (d2 w).up e1}
 {show Ov _ _ (f.c+(0+g.c*co f.ts v)*1);rw[Rat.zero_add,Rat.mul_one];exact (d3.up e1).add (by rw[Rat.mul_comm];exact (d2 v).mul e3)}
def CA {f g:F}{v:Int}(hc:Cn f.ts)(w:Int):co (f.subst v g).ts w=(if v=w then 0 else co f.ts w)+co g.ts w*co f.ts v:=by grind [F.subst,WX,bG,Zv]
def MG {S:Nat}{lo hi:Rat}(hl:Fits S lo)(hh:Fits S hi)(h:hi-lo≠0):∃ E:Nat,0<E/\E<B^(2*S+1)/\Ov E (2*S) (hi/(hi-lo))/\Ov E (2*S) (-(lo*hi)/(hi-lo)):=by
 have k1:=Bn hi;have k2:=Bn lo;have e2:2*S=S+S:=by omega
 have b1:=x7 hh.num hl.den;have b2:=x7 hl.num hh.den;have b3:=x7 hl.num hh.num;rw[<-e2] at b1 b2 b3;obtain⟨e,he⟩:∃ e:Int,e=hi.num*lo.den-lo.num*hi.den:=⟨_,rfl⟩;have k3:(hi-lo)*(((hi.den:Int):Rat)*((lo.den:Int):Rat))=(e:Rat):=by rw[he,Rat.intCast_sub,Rat.intCast_mul,Rat.intCast_mul,<-k1,<-k2];grind
 have k5:hi/(hi-lo)*(e:Rat)=((hi.num*lo.den:Int):Rat):=by grind
 have k6:-(lo*hi)/(hi-lo)*(e:Rat)=((-(lo.num*hi.num):Int):Rat):=by grind
 have e0:e≠0:=λe0=>by rw[e0] at k3;have z1:((hi.den:Int):Rat)≠0:=λe=>hi.den_nz (by have:=Rat.intCast_inj.1 (e.trans (by rfl:(0:Rat)=((0:Int):Rat)));omega);have z2:((lo.den:Int):Rat)≠0:=λe=>lo.den_nz (by have:=Rat.intCast_inj.1 (e.trans (by rfl:(0:Rat)=((0:Int):Rat)));omega);grind
 refine⟨e.natAbs,by omega,?_,Bv k5 (by grind [Int.natAbs_mul]),Bv k6 (by grind [Int.natAbs_mul])⟩;have h5:B^(2*S+1)=B^(2*S)*B:=uC _ _;have h6:B^(2*S)*2<=B^(2*S)*B:=vQ _ (by decide);have h7:e.natAbs<=hi.num.natAbs*lo.den+lo.num.natAbs*hi.den:=by rw[he];refine vR (Int.natAbs_sub_le _ _) ?_;rw[eV,eV,Yk,Yk];omega
 omega
def Ea {p:F}{lo hi:Rat}{P S:Nat}(hp:p.cd P)(hl:Fits S lo)(hh:Fits S hi)(h:hi-lo≠0):((p.scale (hi/(hi-lo))).add (F.num (-(lo*hi)/(hi-lo)))).cd (P+2*S+1):=by obtain⟨D,d0,d1,d2,d3⟩:=hp;obtain⟨E,e0,e1,e2,e3⟩:=MG hl hh h;refine⟨D*E,Yi d0 e0,?_,λw=>?_,?_⟩;{have:=x7 d1 e1;omega};{rw[WX,eM,bG,Rat.add_zero];exact ((d2 w).mul e2).mono oM};{show Ov _ _ ((0+p.c*_)+(-(lo*hi)/(hi-lo))*1);rw[Rat.zero_add,Rat.mul_one];have h2:=e3.up d1;rw[qX] at h2;exact (d3.mul e2).add (h2.mono oM)}
def Wg {c:Rat}{N k:Nat}(hc:Fits N c):∀ {b a:List (Row×Rat)} {A:Nat},(∀ t,t∈b->Fits k t.2)->(∀ t,t∈a->Fits A t.2)->∀ t,t∈xU a b c->Fits (A+(k+N+1)*b.length) t.2
 |[],a,A,_,ha,t,ht=>by rw[iS];exact ha t ht| x::r,a,A,hb,ha,t,ht=>by have h1:=nC (r:=x.1) (yY (hb x xV) hc) ha;have:=Wg hc (b:=r) (a:=plMq a x.1 (x.2*c)) (λu hu=>hb u (xQ _ hu)) h1 t ht;refine this.mono ?_;rw[bK,qO];omega
structure Pays (s:Scp) (N hi:Nat) (G H:Nat->Nat):Prop where
 m:∀ v,v<hi->G v<=G (v+1)/\H v<=H (v+1)
 b:∀ v:Nat,v<hi->∀ up b,s.ofB v up=some b->∃ m k,Fits m b.1.q/\(∀ t,t∈b.2->Fits k t.2)/\b.2.length<=2/\G v+m+1<=G (v+1)/\H v+(k+N+1)*b.2.length<=H (v+1)
def lH {G:Nat->Nat}{hi:Nat}(h:∀ v,v<hi->G v<=G (v+1)){a b:Nat}(hab:a<=b)(hb:b<=hi):G a<=G b:=by
 induction b with
 |zero=>grind| succ b ih =>
  grind
def Fg {D E N M e m:Nat}{a c b:Rat}(ha:Ov (D*E) M a)(hc:Ov D N c)(hb:Fits m b)(h1:E<B^e)(h2:e+N<=M):Ov (D*(E*b.den)) (M+m+1) (a+c*b):=by
 have n1:Ov (D*(E*b.den)) (M+m) a:=by have:=ha.up hb.den;grind
 have n2:Ov (D*(E*b.den)) (M+m) (c*b):=by have:=(hc.mul hb.ov).up h1;rw[gF,qX _ E] at this;exact this.mono oM
 exact n1.add n2
def FY {s:Scp}{D N hi:Nat}{G H:Nat->Nat}(hG:Pays s N hi G H):∀ {ts:List (Int×Rat)} {a a':Rat} {l l':List (Row×Rat)} {lo M e E A:Nat},Cn ts->(∀ t,t∈ts->(lo:Int)<=t.1/\t.1<hi)->lo<=hi->(∀ t,t∈ts->Ov D N t.2/\Fits N t.2)->0<E->E<B^e->e+N<=M->Ov (D*E) M a->(∀ u,u∈l->Fits A u.2)->s.boxL ts a l=some (a',l') ->∃ M' e' E' A',0<E'/\E'<B^e'/\e'+N<=M'/\Ov (D*E') M' a'/\M'+G lo<=M+G hi/\A'+H lo<=A+H hi/\(∀ u,u∈l'->Fits A' u.2)/\l'.length<=l.length+2*ts.length
 |[],a,a',l,l',lo,M,e,E,A,_,_,hlh,_,h0,h1,h2,h3,h4,h=>by cases h;have:=lH (λv hv=>(hG.m v hv).1) hlh (yD _);have:=lH (λv hv=>(hG.m v hv).2) hlh (yD _);exact⟨M,e,E,A,h0,h1,h2,h3,by omega,by omega,h4,by simp⟩
 |t::r,a,a',l,l',lo,M,e,E,A,hc,hv,hlh,hf,h0,h1,h2,h3,h4,h=>by
  obtain⟨g1,g2⟩:=hv t xV;obtain⟨v,hv1⟩:∃ v:Nat,t.1=v:=⟨t.1.toNat,by omega⟩;unfold Scp.boxL at h;rw[hv1] at h;cases hb:s.ofB v (decide (z3 t.2<0)) with
  |none=>grind| some b =>
   rw[hb] at h;obtain⟨m,k,b1,b2,b3,b4,b5⟩:=hG.b v oM _ b hb;obtain⟨c1,c2⟩:=hf t xV;have hl2:=lI (vP t.2) b.2 l;obtain⟨M',e',E',A',k1,k2,k3,k4,k5,k6,k7,k8⟩:=FY hG (lo:=v+1) (M:=M+m+1) (e:=e+m) (A:=A+(k+N+1)*b.2.length) hc.tail
    (λu hu=>by have:=hc.lt u hu;grind) oM (λu hu=>hf u (xQ _ hu))
    (Yi h0 b.1.q.den_pos) (x7 h1 b1.den) oM (Fg h3 c1 b1 h1 h2) (Wg (jX c2) b2 h4) h
   have z1:=lH (λv hv=>(hG.m v hv).1) (a:=lo) (b:=v) oM oM;have z2:=lH (λv hv=>(hG.m v hv).2) (a:=lo) (b:=v) oM oM;refine⟨M',e',E',A',k1,k2,k3,k4,by omega,by omega,k7,?_⟩;grind
def Gr {s:Scp}{N hi:Nat}{G H:Nat->Nat}(hG:Pays s N hi G H){f:F}(hf:f.cd N)(hw:f.wf (hi:Int))(i:Nat){a:Rat}{l:List (Row×Rat)}(h:s.boxL (f.ts.take i) f.c []=some (a,l)):Fits (N+1+G hi) a/\(∀ t,t∈l->Fits (H hi) t.2)/\l.length<=2*hi:=by
 have hfl:=hf.fl hw.cn (yD _);obtain⟨D,d0,d1,d2,d3⟩:=hf;obtain⟨M',e',E',A',k1,k2,k3,k4,k5,k6,k7,k8⟩:=FY (D:=D) (lo:=0) (M:=N+1) (e:=1) (E:=1) (A:=0) hG (hw.cn.take i) (λt ht=>by have:=hw.v t (s7 ht);omega) (yU _)
  (λt ht=>by have ht:=s7 ht;have:=d2 t.1;rw[hw.cn.co_mem ht] at this;exact⟨this,hfl.t t ht⟩) Nat.one_pos (by decide) oM (by rw[t8];exact d3.mono oM) (λu hu=>absurd hu (by simp)) h
 have hl:=hw.len;have hl2:(f.ts.take i).length<=f.ts.length:=by grind
 refine⟨k4.fits (Yi d0 k1) ?_ |>.mono oM,λt ht=>(k7 t ht).mono oM,?_⟩;{exact uR (x7 d1 k2) (dH w8 oM)};grind
theorem Ar (raw:List UInt8)(a:Nat):Ov 4 1 (fdQ raw a).1:=by
 have h1:=kI (raw:=raw) (n:=9) (a:=a) (by decide);have key:∀ m k:Nat,m<9->∃ z:Int,rB ((m:Int)-4) (dnm k)*(((4:Nat):Int):Rat)=(z:Rat)/\z.natAbs<B^1:=λm k hm=>by
  (have e:∀ m:Fin 9,∀ k:Fin 4,∃ z:Fin 33,rB ((m.val:Int)-4) (dnm k.val)*(((4:Nat):Int):Rat)=(((z.val:Int)-16:Int):Rat):=by decide +kernel);have hk:dnm k=dnm (if k<4 then k else 3):=by split;{rfl};{unfold dnm;grind}
  obtain⟨z,hz⟩:=e ⟨m,hm⟩ ⟨if k<4 then k else 3,by grind⟩;refine⟨_,by rw[hk];exact hz,?_⟩;have:=z.isLt;have hB:B^1=4294967296:=rfl;omega
 exact key _ _ h1
def QX (raw:List UInt8):∀ (n v:Nat) (f:F) (a:Nat),(∀ w,Ov 4 1 (co f.ts w))->Ov 4 1 f.c->(∀ w,(v:Int)<=w->co f.ts w=0)->(∀ w,Ov 4 1 (co (mN raw n v f a).1.ts w))/\Ov 4 1 (mN raw n v f a).1.c
 |0,v,f,a,h1,h2,h3=>⟨h1,h2⟩| n+1,v,f,a,h1,h2,h3=>by
  unfold mN;split
  ·(have e:∀ w,co (f.add ((F.var v).scale (fdQ raw (na raw a)).1)).ts w=co f.ts w+dlt v w*(fdQ raw (na raw a)).1:=λw=>by rw[WX,bG,eJ]);refine QX raw n (v+1) _ _ (λw=>?_) ?_ (λw hw=>?_)
   {rw[e];unfold dlt;split;{rename_i g;rw[h3 w oM,Rat.zero_add,Rat.one_mul];grind [Ar]};grind};{show Ov 4 1 (f.c+(0+(0:Rat)*(fdQ raw (na raw a)).1)*1);grind};{rw[e,h3 w oM];unfold dlt;grind}
  {exact QX raw n (v+1) f _ h1 h2 (λw hw=>h3 w oM)}
theorem Ay (raw:List UInt8)(n a:Nat):(fdF raw n a).1.cd 1:=by obtain⟨h1,h2⟩:=QX raw n 0 (F.num (fdQ raw a).1) (fdQ raw a).2 (λw=>by rw[eM];exact Ov.zero) (Ar raw a) (λw _=>eM _ w);exact⟨4,by decide,by decide,h1,h2⟩
def As {raw:List UInt8}{d:Nat}:∀ {n v a:Nat} {f:F},f∈(fdL raw d n v a).1->f.cd 1
 |0,v,a,f,h=>absurd h (by simp[fdL])| n+1,v,a,f,h=>by rcases yI.1 h with rfl|h;{grind [Ay]};{exact As (n:=n) h}
theorem F.cd.neg1 {f:F}{N:Nat}(h:f.cd N):(f.scale (-1)).cd N:=by obtain⟨D,h0,h1,h2,h3⟩:=h;refine⟨D,h0,h1,λw=>?_,?_⟩;{rw[bG,show co f.ts w * -1=-(co f.ts w) by grind];exact (h2 w).neg};{show Ov D N (0+f.c * -1);rw[show 0+f.c * -1=-f.c by grind];exact h3.neg}
structure RoIn (s:Scp) (r:Row):Prop where
 i:0<=r.i/\r.i<1024
 p:r.k=4->r.i<s.path.length
 lo:0<=r.lo/\r.lo<=s.lems.length
 hi:0<=r.hi/\r.hi<=s.lems.length
def KB:Nat->Nat
 |0=>60| 1=>184| 2=>556| _=>1672
def VC (i:Nat):1<=KB i:=by unfold KB;grind
def Sk (i:Nat):KB i<=1672:=by unfold KB;grind
structure Isz (x:FQry) (s:Scp):Prop where
 g:s.q.g=x.q.g
 r:s.q.r=x.q.r
 p:∀ d,d∈s.path->d.x.sz 3
 pl:s.path.length<=1000
 lb:LB KB s.lems
theorem tY (s:Scp)(j:Int):(s.best j).1<=s.lems.length/\(s.best j).2<=s.lems.length:=by constructor;{by_cases h:(s.best j).1=0;{omega};{obtain⟨m,hm,_⟩:=kS (s:=s) (unit:=j) (.inl rfl) h;grind}};{by_cases h:(s.best j).2=0;{omega};{obtain⟨m,hm,_⟩:=kS (s:=s) (unit:=j) (.inr rfl) h;grind}}
theorem sA {s:Scp}{k lo hi:Int}{j:Nat}(hj:j<1024)(hk:k≠4)(h1:0<=lo/\lo<=s.lems.length)(h2:0<=hi/\hi<=s.lems.length):RoIn s ⟨k,j,lo,hi⟩:=⟨by grind,λh=>absurd h hk,h1,h2⟩
def FG {q:Qry}{up:Bool}{i:Int}{P:Bd->Prop}(n:Nat):∀ {l:List Dec} {k:Nat} {b:Bd},k+l.length<=n->P b->(∀ d,d∈l->∀ k:Nat,k<n->P (d.x,[(⟨4,k,0,0⟩,1)]))->P (inG q up i k l b)
 |[],k,b,_,h,_=>h| d::r,k,b,hn,h,hd=>by unfold inG;rw[bK] at hn;refine FG n oM ?_ (λe he=>hd e (xQ _ he));grind
def M8 {x:FQry}{s:Scp}(hx:x.small)(h:Isz x s){i:Nat}(hi:i<x.g.n)(up:Bool):(s.inB i up).1.sz 3/\∃ r,(s.inB i up).2=[(r,1)]/\RoIn s r/\r.k<=4:=by
 have hn2:=hx.g.n2;have hpl:=h.pl;have z:(0:Int)<=0/\(0:Int)<=(s.lems.length:Int):=by omega
 have hs:∀ (g:Rat×Rat->Rat),(∀ b,b∈x.r.bs->Fits 3 (g b))->(((x.r.bs.map λb=>zG (g b))[((i:Int)).toNat]?).getD R0).sz 3:=λg hg=>by
  cases hy:(x.r.bs.map λb=>zG (g b))[((i:Int)).toNat]? with
  |none=>exact⟨yU _,yU _⟩| some y =>
   obtain⟨b,hb,rfl⟩:=xA.1 (zX hy);grind [zT]
 have hlo:((s.q.r.lo[((i:Int)).toNat]?).getD R0).sz 3:=by rw[h.r];exact hs Prod.fst λb hb=>(hx.r.bf b hb).1
 have hhi:((s.q.r.hi[((i:Int)).toNat]?).getD R0).sz 3:=by rw[h.r];exact hs Prod.snd λb hb=>(hx.r.bf b hb).2
 unfold Scp.inB;refine FG (P:=λb=>b.1.sz 3/\∃ r,b.2=[(r,1)]/\RoIn s r/\r.k<=4) s.path.length oM ?_ (λd hd k hk=>⟨h.p d hd,_,rfl,⟨by grind,λ_=>by grind,z,z⟩,by grind⟩);cases up;{exact⟨hlo,_,rfl,sA oM (by decide) z z,by grind⟩};{exact⟨hhi,_,rfl,sA oM (by decide) z z,by grind⟩}
def Xh {s:Scp}(h:LB KB s.lems){j:Nat}(h0:(s.best j).1≠0):Fits (KB j) (s.vLo j):=Xg h (.inl rfl) h0
def Kw {s:Scp}(h:LB KB s.lems){j:Nat}(h0:(s.best j).2≠0):Fits (KB j) (s.vHi j):=Xg h (.inr rfl) h0
def BC {s:Scp}{j:Nat}(hj:j<1024):RoIn s (s.onR j).1:=by grind [tY,Scp.onR,sA]
theorem Fj {s:Scp}{j:Nat}(hj:j<1024):RoIn s (s.offR j).1:=by grind [tY,Scp.offR,sA]
structure BdOk (s:Scp) (b:Bd) (m k n:Nat):Prop where
 sz:b.1.sz m
 c:∀ t,t∈b.2->Fits k t.2
 r:∀ t,t∈b.2->RoIn s t.1
 len:b.2.length<=n
theorem bd1 {s:Scp}{x:R}{m k:Nat}{r:Row}(hx:x.sz m)(hk:1<=k)(hr:RoIn s r):BdOk s (x,[(r,1)]) m k 2 :=
 ⟨hx,λt ht=>by obtain rfl:=kC.1 ht;exact fits_one.mono hk,λt ht=>by grind,by grind⟩
def bd2 {s:Scp}{x:R}{m k:Nat}{r r':Row}{a b:Rat}(hx:x.sz m)(ha:Fits k a)(hb:Fits k b)(hr:RoIn s r)(hr':RoIn s r'):BdOk s (x,[(r,a),(r',b)]) m k 2 :=
 ⟨hx,λt ht=>by
  grind,λt ht=>by
  grind,by grind⟩
def XX {x:FQry}{s:Scp}(hx:x.small)(h:Isz x s){v:Nat}(hv:v<x.g.n){up:Bool}{b:Bd}(hb:s.ofB v up=some b):BdOk s b 3 1 1/\(∀ t,t∈b.2->t.2=1/\t.1.k<=4):=by
 have hn:s.q.g.n=(x.g.n:Int):=by rw[h.g];rfl
 unfold Scp.ofB at hb;rw[hn,if_pos oM] at hb;cases hb;obtain⟨g1,r,g2,g3,g4⟩:=M8 hx h hv up;rw[g2];exact⟨⟨g1,λt ht=>by rw[g2] at ht;obtain rfl:=kC.1 ht;exact fits_one,λt ht=>by grind,by grind⟩,λt ht=>by grind⟩
def HZ {x:FQry}{s:Scp}(h:Isz x s){j:Nat}(hj:j<1024){up:Bool}{b:Bd}(hb:s.ofB ((x.g.n+j:Nat):Int) up=some b):BdOk s b (KB j) (3*KB j+3) 2:=by
 have hn:s.q.g.n=(x.g.n:Int):=by rw[h.g];rfl
 have kp:=VC j;have z0:R0.sz (KB j):=⟨yU _,yU _⟩;have hlb:=h.lb;have b1:=(tY s j).1;have b2:=(tY s j).2;have z:(0:Int)<=0/\(0:Int)<=(s.lems.length:Int):=by omega
 unfold Scp.ofB at hb;rw[hn,if_neg oM,show ((x.g.n+j:Nat):Int)-(x.g.n:Int)=(j:Int) by omega] at hb;split at hb
 ·unfold Scp.moB at hb;split at hb;{grind [bd1,Fj]};split at hb;{cases hb};rename_i hc;have f2:=Kw hlb (j:=j) (λe=>hc (.inl e));split at hb;{cases hb;exact bd2 (zT f2) (fits_one.mono oM) (fits_one.mono oM) (BC hj) (sA hj (by decide) z oM)}
  ·(rename_i hon;have f1:=Xh hlb (j:=j) (λe=>hc (.inr ⟨by grind,e⟩));have fi:Fits (2*KB j+2) (1/(s.vHi j-s.vLo j)):=by rw[s8];exact (yY fits_one (bD (vC f2 f1))).mono oM);cases hb
   exact bd2 (zT f2) ((yY fi f2).mono oM) (fi.mono oM) (sA hj (by decide) z oM) (sA hj (by decide) oM oM)
 {unfold Scp.leB at hb;split at hb;{grind [bd1,sA]};{rename_i hc;have f1:=Xh hlb (j:=j) (λe=>hc (.inl e));cases hb;exact bd2 (zT f1) (fits_one.mono oM) (fits_one.mono oM) (sA hj (by decide) z z) (sA hj (by decide) oM z)}}
def pgv (n:Nat):Nat->Nat
 |0=>0| v+1=>pgv n v+(if v<n then 4 else KB (v-n)+1)
def pgm (N n:Nat):Nat->Nat
 |0=>0| v+1=>pgm N n v+(if v<n then N+2 else 6*KB (v-n)+2*N+8)
def Bs {n v:Nat}(h:v<n):pgv n (v+1)=pgv n v+4:=by show pgv n v+(if v<n then 4 else _)=_;grind
def Bt {N n v:Nat}(h:v<n):pgm N n (v+1)=pgm N n v+(N+2):=by show pgm N n v+(if v<n then N+2 else _)=_;grind
def MI (n j:Nat):pgv n (n+j+1)=pgv n (n+j)+(KB j+1):=by show pgv n (n+j)+(if n+j<n then 4 else _)=_;grind
def MO (N n j:Nat):pgm N n (n+j+1)=pgm N n (n+j)+(6*KB j+2*N+8):=by show pgm N n (n+j)+(if n+j<n then N+2 else _)=_;grind
def HX (n v:Nat):pgv n v<=pgv n (v+1):=by grind [pgv]
def MN (N n v:Nat):pgm N n v<=pgm N n (v+1):=by grind [pgm]
def PY (n:Nat):∀ m,m<=n->pgv n m=4*m
 |0,_=>rfl| m+1,h=>by rw[Bs oM,PY n m oM];omega
def PZ (N n:Nat):∀ m,m<=n->pgm N n m=(N+2)*m
 |0,_=>rfl| m+1,h=>by rw[Bt oM,PZ N n m oM,Yl]
def K4 {x:FQry}{s:Scp}(hx:x.small)(h:Isz x s)(N:Nat){hi:Nat}(hh:hi<=x.g.n+x.g.us.length):Pays s N hi (pgv x.g.n) (pgm N x.g.n):=by have hus:=hx.g.us;refine⟨λv hv=>⟨HX _ _,MN _ _ _⟩,λv hv up b hb=>?_⟩;by_cases hvn:v<x.g.n;{obtain⟨g,_⟩:=XX hx h hvn hb;have e:=Bs hvn;have e':=Bt (N:=N) hvn;refine⟨3,1,g.sz.fits (by decide),g.c,vR g.len (by decide),by omega,?_⟩;have:=vQ (1+N+1) g.len;omega};{obtain⟨j,rfl⟩:∃ j,v=x.g.n+j:=⟨v-x.g.n,by omega⟩;have g:=HZ h (j:=j) oM hb;have e:=MI x.g.n j;have e':=MO N x.g.n j;refine⟨KB j,3*KB j+3,g.sz.fits (VC j),g.c,g.len,by omega,?_⟩;have:=vQ (3*KB j+3+N+1) g.len;omega}
def Ul {l:List (Row×Rat)}{r:Row}{q:Rat}{P:Row->Prop}(hl:∀ t,t∈l->P t.1)(hr:P r):∀ t,t∈plMq l r q->P t.1:=λt ht=>by grind [plMq,Qx]
def rJ {c:Rat}{P:Row->Prop}:∀ {b a:List (Row×Rat)},(∀ t,t∈b->P t.1)->(∀ t,t∈a->P t.1)->∀ t,t∈xU a b c->P t.1
 |[],a,_,ha,t,ht=>ha t ht| x::r,a,hb,ha,t,ht=>rJ (b:=r) (a:=plMq a x.1 (x.2*c)) (λu hu=>hb u (xQ _ hu)) (Ul ha (hb x xV)) t ht
def W9 {s:Scp}{P:Row->Prop}:∀ {ts:List (Int×Rat)} {a a':Rat} {l l':List (Row×Rat)},(∀ t,t∈ts->∀ up b,s.ofB t.1 up=some b->∀ u,u∈b.2->P u.1)->(∀ u,u∈l->P u.1)->s.boxL ts a l=some (a',l')->∀ u,u∈l'->P u.1
 |[],a,a',l,l',_,hl,h=>by cases h;exact hl
 |t::r,a,a',l,l',hb,hl,h=>by
  unfold Scp.boxL at h;cases hx:s.ofB t.1 (decide (z3 t.2<0)) with
  |none=>grind| some b =>
   rw[hx] at h;exact W9 (ts:=r) (λu hu=>hb u (xQ _ hu)) (rJ (hb t xV _ b hx) hl) h
def FZ {s:Scp}:∀ {ts:List (Int×Rat)} {a a':Rat} {l l':List (Row×Rat)},(∀ t,t∈ts->∀ up b,s.ofB t.1 up=some b->∀ u,u∈b.2->0<=u.2)->Rs l->s.boxL ts a l=some (a',l')->Rs l'
 |[],a,a',l,l',_,hl,h=>by cases h;exact hl
 |t::r,a,a',l,l',hb,hl,h=>by
  unfold Scp.boxL at h;cases hx:s.ofB t.1 (decide (z3 t.2<0)) with
  |none=>grind| some b =>
   rw[hx] at h;exact FZ (ts:=r) (λu hu=>hb u (xQ _ hu)) (VA (Df _) (hb t xV _ b hx) hl) h
def UT {s:Scp}:∀ {ts:List (Int×Rat)} {a:Rat} {l:List (Row×Rat)},(∀ t,t∈ts->∀ up,(s.ofB t.1 up).isSome=true)->(s.boxL ts a l).isSome=true
 |[],a,l,_=>rfl| t::r,a,l,hb=>by
  unfold Scp.boxL;have:=hb t xV (decide (z3 t.2<0));cases hx:s.ofB t.1 (decide (z3 t.2<0)) with
  |none=>grind| some b=>exact UT (ts:=r) (λu hu=>hb u (xQ _ hu))
def Bb {a b:Row}(h:vH a b=true):a≠b:=λe=>MA (by rw[e] at h;exact h)
def Fd {r:Row}{q:Rat}:∀ {l:List (Row×Rat)},(∀ t,t∈l->t.1≠r)->∀ t,t∈plM r q l->t∈l\/t=(r,q)
 |[],_,t,h=>.inr (by grind [plM])| a::rest,hl,t,h=>by
  unfold plM at h;split at h
  ·rcases yI.1 h with rfl|h;{grind}
   ·rcases Fd (λu hu=>hl u (xQ _ hu)) t h with g|g
    all_goals grind
  grind
def Wf {c:Rat}:∀ {b a:List (Row×Rat)},Rs b->(∀ t,t∈b->∀ u,u∈a->u.1≠t.1)->∀ t,t∈xU a b c->t∈a\/∃ u,u∈b/\t=(u.1,u.2*c)
 |[],a,_,_,t,ht=>.inl ht| x::r,a,hb,hd,t,ht=>by
  (have key:∀ u,u∈plMq a x.1 (x.2*c)->u∈a\/u=(x.1,x.2*c):=λu hu=>by unfold plMq at hu;split at hu;{grind};{exact Fd (λw hw=>hd x xV w hw) u hu});rcases Wf (b:=r) (a:=plMq a x.1 (x.2*c)) hb.tail (λu hu w hw=>by
   rcases key w hw with g|g;{grind}
   ·rw[g];exact Bb (hb.lt u hu)) t ht with g|⟨u,hu,e⟩
  all_goals grind
end Go.Proofs.YtaeaffgjdcigoaaGreat
