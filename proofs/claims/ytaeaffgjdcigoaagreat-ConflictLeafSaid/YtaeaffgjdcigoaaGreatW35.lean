/- A part of the proof: KcM, KcP, KcR, KcT, KpE, KpG, KpH. -/
import Derived.Test.YtaeaffgjdcigoaaGreatW32
import Derived.Test.YtaeaffgjdcigoaaGreatW25
import Derived.Test.YtaeaffgjdcigoaaGreatW31
import Derived.Test.YtaeaffgjdcigoaaGreatW26
import Derived.Test.YtaeaffgjdcigoaaGreatW20
import Derived.Test.YtaeaffgjdcigoaaGreatW22
import Derived.Test.YtaeaffgjdcigoaaGreatW27
set_option linter.all false
namespace Go.Proofs.YtaeaffgjdcigoaaGreat
open Go
set_option maxRecDepth 100000
set_option maxHeartbeats 4000000
abbrev xH:=Int×Bool
def ltc (l:xH):List PV:=[iV l.1,zL l.2]
abbrev ltv (l:xH):PV:=.agg [iV l.1,zL l.2]
abbrev bX (l:List xH):PV:=.sl (λ_=>enc ltc l)
def vH (l:xH):yT qO (ltc l)=true:=rfl
def vG (l:xH):(ltc l).length=2:=rfl
abbrev EL (s : String) (o b : Nat) : Field := { name := s, type := 4, offset := o, embedded := false, tag := "", pkgPath := "", byteOffset := b }
def Ra:Pg.underlying 83=some (.struct (Pg.fieldsOf 83)):=by rw[uZ];kernel_rfl
def C5 : (Pg.fieldsOf 83).toList = [fld "Unit" 0 0, EL "On" 1 8] := by rw [uZ]; kernel_rfl
def C4:Pg.stoodInHeld 83=false:=by rw[uZ];simp_all
theorem FQ:Pg.eqGuardType Pg.depth 83=false:=by rw[uZ];simp_all
def HP:Pg.plainKey 4=true:=by rw[uZ];kernel_rfl
def Ag:Pg.underlying 4=some .bool:=by rw[uZ];simp_all
abbrev KN (a:xH):Array Value:=#[.int .i64 a.1,.bool a.2]
theorem FR (a b:xH)(w:World):(Op.equalIn 10000 83 (.agg (KN a)) (.agg (KN b))).run Pg w=.ok (decide (a=b)) w:=by
 rw[show (10000:Nat)=9999+1 from rfl,run_equalIn_agg w 9999 _ _ _ Ra C4,C5];have p0:∀ (c:xH),(part 3 (KN c) 0).run Pg w=.ok (.int .i64 c.1) w:=λc=>run_part_plain _ p8 rfl;have p1:∀ (c:xH),(part 4 (KN c) 1).run Pg w=.ok (.bool c.2) w:=λc=>run_part_plain _ HP rfl;have q:∀ (x y:Int),(Op.equalIn 9999 3 (.int .i64 x) (.int .i64 y)).run Pg w=.ok (x == y) w:=λx y=>run_equalIn_int w 9998 _ .i64 .i64 x y GV;have q2:∀ (x y:Bool),(Op.equalIn 9999 4 (.bool x) (.bool y)).run Pg w=.ok (x == y) w:=λx y=>run_equalIn_bool w 9998 _ x y Ag;have e:decide (a=b)=((a.1 == b.1)&&(a.2 == b.2)):=by grind
 rw[e];simp only[Op.eqFields,Sem.run_bind,Sem.run_ite,p0,p1,q,q2,Result.andThen_ok,Sem.run_pure];grind
def G8 {x y:Operand}{a b:xH}{K:PV->Prop}(hK:K (zL (decide (a=b)))):EqS .eql 83 x y [.i λ_=>a.1,.b λ_=>a.2] [.i λ_=>b.1,.b λ_=>b.2] K:=by refine⟨⟨decide (a=b),λw=>?_,hK⟩⟩;show (do eqGuard .eql 83 x y (.agg (KN a)) (.agg (KN b));binOp .eql 83 (.agg (KN a)) (.agg (KN b)):Sem Value).run Pg w=_;grind [Sem.run_bind,run_eqGuard_agg,FQ,Result.andThen_ok,run_eql_struct,FR]
def To (l:xH):zC 67 [ltv l] (ltv (l.1,!l.2)):=by
 refine sF Tryz.f67 ?_;obtain⟨u,b⟩:=l;cbv
 (refine rC ?_;cbv)
 exact⟨lR,yY rfl,trivial⟩
def LP (l:xH):zC 74 [ltv l] (ltv (l.1,!l.2)):=by
 refine sF Tryz.f74 ?_;obtain⟨u,b⟩:=l;cbv
 (refine rC ?_;cbv)
 exact⟨lR,yY rfl,trivial⟩
def lV (d:Dec):Option xH:=if d.k=1\/d.k=2 then some (d.i,decide (d.k=1)) else none
def LH (d:Dec):zC 140 [dv d] (zL (decide (d.k=1\/d.k=2))):=by
 refine sF Tryz.f140 ?_;obtain⟨k,i,x⟩:=d;cbv;refine zQ (λe=>?_) (λe=>?_)
 ·cbv
  (refine rC ?_;cbv)
  exact yV (decide_eq_true (.inl e))
 ·cbv
  (refine rC ?_;cbv)
  exact zX (by grind)
def LW (d:Dec):zC 66 [dv d] (.tup [ltv ((lV d).getD (0,false)),zL ((lV d).isSome)]):=by
 refine sF Tryz.f66 ?_;have cu:=LH d;obtain⟨V,hV⟩:=ex (((lV d).getD (0,false)).1);obtain⟨B,hB⟩:=ex (((lV d).getD (0,false)).2);obtain⟨S,hS⟩:=ex ((lV d).isSome);have k1:(d.k=1\/d.k=2)->V=d.i/\B=decide (d.k=1)/\S=true:=λh=>by rw[<-hV,<-hB,<-hS];unfold lV;grind
 have k2:¬(d.k=1\/d.k=2)->V=0/\B=false/\S=false:=λh=>by rw[<-hV,<-hB,<-hS];unfold lV;grind
 unfold ltv;rw[hV,hB,hS];obtain⟨k,i,x⟩:=d;dsimp only at *;clear hV hB hS;cbv;refine cA cu ?_;cbv;refine zO (λe=>?_) (λe=>?_);{obtain⟨q1,q2,q3⟩:=k1 (of_decide_eq_true e);subst q1 q2 q3;cbv;exact rA};{obtain⟨q1,q2,q3⟩:=k2 (of_decide_eq_false e);subst q1 q2 q3;cbv;exact rA}
def L8 (l:xH):zC 92 [ltv l] (dv ⟨if l.2=true then 1 else 2,l.1,R0⟩):=by
 refine sF Tryz.f92 ?_;obtain⟨u,b⟩:=l;cbv;refine zO (λe=>?_) (λe=>?_)
 ·cbv
  (refine rC ?_;cbv)
  exact⟨zB (by grind),lR,zK rfl,yM rfl,yM rfl,trivial⟩
 ·cbv
  (refine rC ?_;cbv)
  exact⟨zB (by grind),lR,zK rfl,yM rfl,yM rfl,trivial⟩
def Nl (l:xH):zC 91 [ltv l] (dv ⟨if l.2=true then 1 else 2,l.1,R0⟩):=by
 refine sF Tryz.f91 ?_;obtain⟨u,b⟩:=l;cbv;refine zO (λe=>?_) (λe=>?_)
 ·cbv
  (refine rC ?_;cbv)
  exact⟨zB (by grind),lR,zK rfl,yM rfl,yM rfl,trivial⟩
 ·cbv
  (refine rC ?_;cbv)
  exact⟨zB (by grind),lR,zK rfl,yM rfl,yM rfl,trivial⟩
def clG:Option Int->List xH->Bool
 |_,[]=>true| p,a::r=>decide (0<=a.1/\a.1<1024/\(p.all λq=>decide (q<a.1))=true)&&clG (some a.1) r
def pW (c:List xH) (i:Nat):Option Int:=if i=0 then none else (c[i-1]?).map Prod.fst
def Jm {c:List xH}{i:Nat}{a:xH}(h:c[i]?=some a):∃ pb:Int,((a.1<0\/1024<=a.1\/(i≠0/\a.1<=pb))->clG (pW c i) (c.drop i)=false) /\ ((0<=a.1/\a.1<1024/\(i=0\/pb<a.1))->clG (pW c i) (c.drop i)=clG (pW c (i+1)) (c.drop (i+1)))/\(i≠0->∃ bb,c[i-1]?=some (pb,bb)):=by
 have hn:pW c (i+1)=some a.1:=by unfold pW;grind
 rw[hn,zY h];by_cases h0:i=0;{subst h0;refine⟨0,λg=>?_,λg=>?_,λg=>absurd rfl g⟩;{show (decide _&&_)=false;grind};{show (decide _&&_)=_;rw[decide_eq_true ⟨g.1,g.2.1,rfl⟩];rfl}}
 ·(have hi:i<c.length:=(wE.1 h).1;obtain⟨⟨pb,bb⟩,hb⟩:=zS (l:=c) (i:=i-1) oM;have hp:pW c i=some pb:=by unfold pW;grind);rw[hp]
  refine⟨pb,λg=>?_,λg=>?_,λ_=>⟨bb,hb⟩⟩;{show (decide _&&_)=false;grind};{show (decide _&&_)=_;grind}
def LE (c : List xH) (hc : c.length < 2^38) : zC 82 [bX c] (zL (clG none c)) := by
  refine sF Tryz.f82 ?_
  obtain ⟨r, hr⟩ := ex (clG none c)
  have hr0 : r = clG (pW c 0) (c.drop 0) := hr.symm
  rw [hr]
  obtain ⟨G, hG⟩ : ∃ G : Nat → Bool, ∀ i, G i = clG (pW c i) (c.drop i) := ⟨_, fun _ => rfl⟩
  rw [← hG] at hr0
  have hGn : G c.length = true := by rw [hG, vE]; cases pW c c.length <;> rfl
  have key := fun i a (h : c[i]? = some a) => Jm h
  simp only [← hG] at key
  clear hr hG
  cbv
  refine z7 (σ := Nat) (fun i => ⟨[(0, bX c), (3, iV i)], []⟩) (fun i => i ≤ c.length ∧ r = G i) (fun i => c.length - i) 0 ⟨xA _, hr0⟩ (.le (by cbv; repeat' first | exact trivial | exact lR | exact zB (by rw [zA]) | apply And.intro) trivial rfl) ?_
  clear hr0
  intro i hi
  obtain ⟨g1, g2⟩ := hi
  cbv
  refine zF (fun h5 => ?_) (fun h5 => ?_)
  · have hlt : i < c.length := by (try rw [zA] at h5); exact om
    obtain ⟨a, ha⟩ := zS hlt
    obtain ⟨pb, k1, k2, hb⟩ := key i a ha
    rw [← g2] at k1 k2
    clear key
    obtain ⟨au, ab⟩ := a
    dsimp only at k1 k2 hb
    cbv
    refine zM 32 (by cbv) ?_
    cbv
    repeat' first
      | (refine zQ (fun x => ?_) (fun x => ?_) <;> cbv)
      | (refine zF (fun x => ?_) (fun x => ?_) <;> cbv)
      | (refine yL ha vH vG ?_; cbv)
      | (have hz : i ≠ 0 := by (exact om)
         obtain ⟨bb, hb'⟩ := hb hz
         refine ⟨zD om om, x5 hb' (by exact om) vH vG ?_⟩
         cbv)
      | (have g : au < 0 ∨ 1024 ≤ au ∨ (i ≠ 0 ∧ au ≤ pb) := by (exact om)
         have g' := k1 g
         (refine rC ?_; cbv)
         exact zK g')
      | (have g : 0 ≤ au ∧ au < 1024 ∧ (i = 0 ∨ pb < au) := by (exact om)
         have g' := k2 g
         exact ⟨zD om om, i + 1, ⟨(show i + 1 ≤ _ by omega), g'⟩, om, .le (by cbv; repeat' first | exact trivial | exact lR | exact zB om | apply And.intro) trivial rfl⟩)
  · have he : i = c.length := by (try rw [zA] at h5); exact om
    rw [he, hGn] at g2
    cbv
    (refine rC ?_; cbv)
    exact yV g2
def Ng (c : List xH) (hc : c.length < 2^38) : zC 81 [bX c] (zL (clG none c)) := by
  refine sF Tryz.f81 ?_
  obtain ⟨r, hr⟩ := ex (clG none c)
  have hr0 : r = clG (pW c 0) (c.drop 0) := hr.symm
  rw [hr]
  obtain ⟨G, hG⟩ : ∃ G : Nat → Bool, ∀ i, G i = clG (pW c i) (c.drop i) := ⟨_, fun _ => rfl⟩
  rw [← hG] at hr0
  have hGn : G c.length = true := by rw [hG, vE]; cases pW c c.length <;> rfl
  have key := fun i a (h : c[i]? = some a) => Jm h
  simp only [← hG] at key
  clear hr hG
  cbv
  refine z7 (σ := Nat) (fun i => ⟨[(0, bX c), (5, bX c), (6, iV c.length), (7, iV i)], []⟩) (fun i => i ≤ c.length ∧ r = G i) (fun i => c.length - i) 0 ⟨xA _, hr0⟩ (.le (by cbv; repeat' first | exact trivial | exact lR | exact zB (by rw [zA]) | apply And.intro) trivial rfl) ?_
  clear hr0
  intro i hi
  obtain ⟨g1, g2⟩ := hi
  cbv
  refine zF (fun h5 => ?_) (fun h5 => ?_)
  · have hlt : i < c.length := by (try rw [zA] at h5); exact om
    obtain ⟨a, ha⟩ := zS hlt
    obtain ⟨pb, k1, k2, hb⟩ := key i a ha
    rw [← g2] at k1 k2
    clear key
    obtain ⟨au, ab⟩ := a
    dsimp only at k1 k2 hb
    cbv
    refine yL ha vH vG ?_
    cbv
    refine zM 23 (by cbv) ?_
    cbv
    repeat' first
      | (refine zQ (fun x => ?_) (fun x => ?_) <;> cbv)
      | (refine zF (fun x => ?_) (fun x => ?_) <;> cbv)
      | (refine yL ha vH vG ?_; cbv)
      | (have hz : i ≠ 0 := by (exact om)
         obtain ⟨bb, hb'⟩ := hb hz
         refine ⟨zD om om, x5 hb' (by exact om) vH vG ?_⟩
         cbv)
      | (have g : au < 0 ∨ 1024 ≤ au ∨ (i ≠ 0 ∧ au ≤ pb) := by (exact om)
         have g' := k1 g
         (refine rC ?_; cbv)
         exact zK g')
      | (have g : 0 ≤ au ∧ au < 1024 ∧ (i = 0 ∨ pb < au) := by (exact om)
         have g' := k2 g
         exact ⟨zD om om, i + 1, ⟨(show i + 1 ≤ _ by omega), g'⟩, om, .le (by cbv; repeat' first | exact trivial | exact lR | exact zB om | apply And.intro) trivial rfl⟩)
  · have he : i = c.length := by (try rw [zA] at h5); exact om
    rw [he, hGn] at g2
    cbv
    (refine rC ?_; cbv)
    exact yV g2
def Scp.phs (s:Scp) (j:Int):Int:=if s.onU j=true then 1 else if s.offU j=true then 2 else 0
def LN (s:Scp)(j:Nat)(hs:s.sz (2^20))(hv:s.q.valid=true)(hj:j<s.q.g.us.length):zC 44 [sv s,iV j] (iV (s.phs j)):=by
 refine sF Tryz.f44 ?_;have cv:=iA s.q (hs.q.mono (by decide));rw[hv] at cv;have cp:=Tj s j hs;have hr:s.phs j=if s.onU j=true then 1 else if s.offU j=true then 2 else 0:=rfl
 generalize s.phs j=r at *;generalize s.onU j=b1 at *;generalize s.offU j=b2 at *;clear hs hv;cbv;refine cA cv ?_;cbv;refine rZ rfl ?_;cbv;refine yC (by exact om) ?_;cbv;refine yE (by rw[zA];exact om) ?_;cbv;refine cA cp ?_;cbv;refine zO (λe=>?_) (λe=>?_)
 ·rw[if_pos e] at hr;cbv
  (refine rC ?_;cbv)
  exact zB hr.symm
 rw[if_neg (by rw[e];decide)] at hr;cbv;refine zO (λe2=>?_) (λe2=>?_)
 ·rw[if_pos e2] at hr;cbv
  (refine rC ?_;cbv)
  exact zB hr.symm
 ·rw[if_neg (by rw[e2];decide)] at hr;cbv
  (refine rC ?_;cbv)
  exact zB hr.symm
def LM (f:A)(q:Rat)(hf:f.c.sz (2^30))(hq:Fits (2^30) q):zC 45 [av f,rv (zI q)] (av (dT f q)):=by
 refine sF Tryz.f45 ?_;have c:=s93 f.c (zI q) (hf.mono (by decide)) ((zU hq).mono (by decide));rw[z6] at c;have hn:(zI q).neg=decide (q<0):=by show decide (q.num<0)=_;rw[decide_eq_decide];have h1:=@Rat.num_nonneg q;constructor <;> intro h <;> (refine Decidable.byContradiction λh2=>?_) <;> grind
 obtain⟨RA,hRA⟩:=ex (dT f q);have h1:q<0->RA=⟨f.ts,zI (f.c.q-q)⟩:=λh=>by rw[<-hRA];unfold dT;rw[if_pos h]
 have h2:¬q<0->RA=f:=λh=>by rw[<-hRA];unfold dT;rw[if_neg h]
 rw[hRA];clear hRA;generalize zI (f.c.q-q)=W at *;obtain⟨X,hX⟩:=ex (zI q);rw[hX] at c hn ⊢;clear hX;obtain⟨ts,c1,c2,c3⟩:=f
 (try dsimp only at *)
 cbv;refine zO (λe=>?_) (λe=>?_);{have e':q<0:=of_decide_eq_true (hn ▸ e);have g:=h1 e';subst g;cbv;refine cA c ?_;cbv;exact rA};{have e':¬q<0:=of_decide_eq_false (hn ▸ e);have g:=h2 e';subst g;cbv;exact rA}
def shI (d x:Int):Int:=if 0<x then x+d else x
def shM (d:Int) (m:Mult):Mult:=⟨⟨m.row.k,m.row.i,shI d m.row.lo,shI d m.row.hi⟩,m.c⟩
def Nh (l:List Mult)(d:Int)(hl:l.length<2^38)(h0:0<=d)(hd:d<2^40)(hr:∀ m,m∈l->m.row.lo<2^62/\m.row.hi<2^62):zC 104 [mlv l,iV d] (mlv (l.map (shM d))):=by
 refine sF Tryz.f104 ?_;obtain⟨J,hJ⟩:∃ J:Nat->List Mult,∀ i,J i=(l.take i).map (shM d):=⟨_,λ_=>rfl⟩;have hJ0:J 0=[]:=by rw[hJ];rfl
 have hJs:∀ i m,l[i]?=some m->J (i+1)=J i++[shM d m]:=λi m h=>by rw[hJ,hJ,tC,h];simp
 have hJl:∀ i,i<=l.length->(J i).length=i:=λi h=>by rw[hJ,y4,kX];omega
 have hR:l.map (shM d)=J l.length:=by rw[hJ,v9]
 rw[hR];clear hJ hR;cbv;refine z7 (σ:=Nat) (λi=>⟨[(0,mlv l),(1,iV d),(5,yX 5 7 ((J i).length)),(6,iV i)],[(5,xF 7 (enc mc (J i)))]⟩)
  (λi=>i<=l.length) (λi=>l.length-i) 0 (xA _) (.trans (.adoptT 5 7 5 rfl rfl) (.le ?_ ?_ rfl)) ?_
 {cbv;exact⟨lR,lR,zT rfl (by rw[hJ0];rfl),lR,trivial⟩};{cbv;exact⟨zG (by rw[hJ0];rfl),trivial⟩};intro i hi;cbv;refine zF (λh5=>?_) (λh5=>?_)
 ·(have hlt:=jS h5;obtain⟨m,hm⟩:=zS hlt;obtain⟨r1,r2⟩:=hr m (z3 hm);have hs:=hJs i m hm;have hln:=hJl i hi;obtain⟨⟨k,ri,lo,hi'⟩,c⟩:=m;dsimp only at r1 r2;obtain⟨lo2,hlo⟩:=ex (shI d lo);obtain⟨hi2,hhi⟩:=ex (shI d hi');have a1:0<lo->lo2=lo+d:=λh=>by rw[<-hlo];exact if_pos h);have a2:¬0<lo->lo2=lo:=λh=>by rw[<-hlo];exact if_neg h
  (have b1:0<hi'->hi2=hi'+d:=λh=>by rw[<-hhi];exact if_pos h);have b2:¬0<hi'->hi2=hi':=λh=>by rw[<-hhi];exact if_neg h
  (have hs':J (i+1)=J i++[⟨⟨k,ri,lo2,hi2⟩,c⟩]:=by rw[hs,<-hlo,<-hhi];rfl);generalize hA:J i=A at *
  clear hs hlo hhi hr hJs hJl hJ0;cbv;refine yL hm vA xS ?_;cbv;refine kU (σ:=Unit) (λ_=>⟨[(0,mlv l),(1,iV d),(5,yX 5 7 A.length),(6,iV i),(7,.ptr 7 0)],[(5,xF 7 (enc mc A)),(7,.box [iV k,iV ri,iV lo2,iV hi',zL c.neg,nat c.num,nat c.den])]⟩) (λ_=>True) (λe=>?_) (λe=>?_) (λ_ _=>?_);{have g:=a1 e;subst g;cbv;exact⟨zD (by exact om) (by exact om),(),trivial,wkZ⟩};{have g:=a2 e;subst g;cbv;exact⟨(),trivial,wkZ⟩};cbv;refine kU (σ:=Unit) (λ_=>⟨[(0,mlv l),(1,iV d),(5,yX 5 7 A.length),(6,iV i),(7,.ptr 7 0)],[(5,xF 7 (enc mc A)),(7,.box [iV k,iV ri,iV lo2,iV hi2,zL c.neg,nat c.num,nat c.den])]⟩) (λ_=>True) (λe=>?_) (λe=>?_) (λ_ _=>?_);{have g:=b1 e;subst g;cbv;exact⟨zD (by exact om) (by exact om),(),trivial,wkZ⟩};{have g:=b2 e;subst g;cbv;exact⟨(),trivial,wkZ⟩};cbv
  (refine eF ?_;cbv)
  refine jU kK rfl rfl rfl (by rw[zA]) rfl ⟨by simp[zW,xT]⟩ (z8 (by simp[zW,zA] <;> omega) (by simp[zW,zA] at *;exact om)) rfl ?_;cbv;refine⟨zD om om,i+1,(show i+1<=_ by omega),om,.le ?_ ?_ rfl⟩;{cbv;exact⟨lR,lR,zT rfl (by rw[hs',zA];simp[zW]),zB om,trivial⟩};{cbv;exact⟨zG (by rw[hs',<-j6];rfl),trivial⟩}
 {have hi':=dZ h5 hi;subst hi';generalize J l.length=A at *;cbv;refine bD _ (.trans (Wk.sel _ [4] [5] rfl) (.frz 5 rfl rfl ?_ ?_)) rfl ?_;{cbv;exact⟨zZ (by simp[zA]),trivial⟩};{cbv};cbv;exact zR (by rw[wZ,yU (by simp[zA])])}

def Ov (D N:Nat) (q:Rat):Prop:=∃ z:Int,q*((D:Int):Rat)=(z:Rat)/\z.natAbs<B^N
theorem Ov.mono {D N M:Nat}{q:Rat}(h:Ov D N q)(hm:N<=M):Ov D M q:=by obtain⟨z,h1,h2⟩:=h;exact⟨z,h1,uY h2 (dN w9 hm)⟩
theorem Ov.zero {D N:Nat}:Ov D N 0:=⟨0,by grind,Nat.pow_pos w9⟩
theorem Ov.add {D N:Nat}{a b:Rat}(ha:Ov D N a)(hb:Ov D N b):Ov D (N+1) (a+b):=by obtain⟨y,h1,h2⟩:=ha;obtain⟨z,h3,h4⟩:=hb;refine⟨y+z,by grind,?_⟩;grind [B]
theorem Ov.mul {D E N M:Nat}{a b:Rat}(ha:Ov D N a)(hb:Ov E M b):Ov (D*E) (N+M) (a*b):=by obtain⟨y,h1,h2⟩:=ha;obtain⟨z,h3,h4⟩:=hb;refine⟨y*z,?_,by rw[eI];exact wA h2 h4⟩;grind
theorem Ov.neg {D N:Nat}{a:Rat}(ha:Ov D N a):Ov D N (-a):=by obtain⟨y,h1,h2⟩:=ha;exact⟨-y,by grind,by omega⟩
theorem Ov.up {D E N M:Nat}{q:Rat}(h:Ov D N q)(hE:E<B^M):Ov (D*E) (N+M) q:=by obtain⟨z,h1,h2⟩:=h;refine⟨z*E,?_,by rw[eI,Yf];exact wA h2 hE⟩;grind
def CE (q:Rat):q*((q.den:Int):Rat)=(q.num:Rat):=by
 have h:q=mkRat q.num q.den:=(Rat.mkRat_self q).symm;have h0:((q.den:Int):Rat)≠0:=λe=>q.den_nz (by simp_all)
 conv=>lhs;lhs;rw[h,Rat.mkRat_eq_div]
 exact Rat.div_mul_cancel h0
theorem Fits.ov {k:Nat}{q:Rat}(h:Fits k q):Ov q.den k q:=⟨q.num,CE q,h.num⟩
theorem Ov.fits {D N:Nat}{q:Rat}(h0:0<D)(hD:D<B^N)(h:Ov D N q):Fits N q:=by
 obtain⟨z,h1,h2⟩:=h;have hz:((D:Int):Rat)≠0:=λe=>by have:=Rat.intCast_inj.1 (e.trans (by rfl:(0:Rat)=((0:Int):Rat)));omega
 have e:q=mkRat z D:=by rw[Rat.mkRat_eq_div];show q=(z:Rat)/((D:Int):Rat);grind
 grind [rB]
def CM {e y:Int}{N:Nat}{q:Rat}(h:q*(e:Rat)=(y:Rat))(hy:y.natAbs<B^N):Ov e.natAbs N q:=by
 rcases Int.natAbs_eq e with g|g;{exact⟨y,by grind,hy⟩}
 ·(refine⟨-y,?_,by omega⟩;have g2:((e.natAbs:Int))=-e:=by omega);rw[g2,Rat.intCast_neg,Rat.intCast_neg,<-h]
  grind
def F.cd (f:F) (N:Nat):Prop:=∃ D:Nat,0<D/\D<B^N/\(∀ w,Ov D N (co f.ts w))/\Ov D N f.c
theorem F.cd.mono {f:F}{N M:Nat}(h:f.cd N)(hm:N<=M):f.cd M:=by obtain⟨D,h0,h1,h2,h3⟩:=h;exact⟨D,h0,uY h1 (dN w9 hm),λw=>(h2 w).mono hm,h3.mono hm⟩
theorem F.cd.cof {f:F}{N:Nat}(h:f.cd N)(w:Int):Fits N (co f.ts w):=by obtain⟨D,h0,h1,h2,h3⟩:=h;exact (h2 w).fits h0 h1
theorem F.cd.fl {f:F}{N n:Nat}(h:f.cd N)(hc:Cn f.ts)(hl:f.ts.length<=n):f.fl N n:=by refine⟨λt ht=>?_,?_,hl⟩;{have:=h.cof t.1;rw[hc.co_mem ht] at this;omega};{obtain⟨D,h0,h1,h2,h3⟩:=h;exact h3.fits h0 h1}
theorem F.cd.pos {f:F}{N:Nat}(h:f.cd N):1<=N:=by
 obtain⟨D,h0,h1,h2,h3⟩:=h;cases N with
 |zero=>grind| succ n=>omega
def B5 {hi:Int}:∀ {l:List (Int×Rat)} {lo:Int},Cn l->(∀ t,t∈l->lo<=t.1/\t.1<hi)->lo<=hi->(l.length:Int)<=hi-lo
 |[],lo,_,_,h=>by grind| t::r,lo,hc,hv,h=>by obtain⟨h1,h2⟩:=hv t wI;have:=B5 (hi:=hi) (l:=r) (lo:=t.1+1) hc.tail (λu hu=>by have g1:=hc.lt u hu;grind) oM;grind
theorem F.wf.len {f:F}{n:Nat}(h:f.wf (n:Int)):f.ts.length<=n:=by have:=B5 h.cn h.v (by omega:(0:Int)<=(n:Int));omega
theorem F.cd.subst {f g:F}{v:Int}{N M:Nat}(hc:Cn f.ts)(hf:f.cd N)(hg:g.cd M):(f.subst v g).cd (N+M+1):=by
 obtain⟨D,d0,d1,d2,d3⟩:=hf;obtain⟨E,e0,e1,e2,e3⟩:=hg;refine⟨D*E,Yd d0 e0,uY (wA d1 e1) (dN w9 oM),λw=>?_,?_⟩
 ·(have h2:Ov (D*E) (N+M) (co g.ts w*co f.ts v):=by rw[Rat.mul_comm];exact (d2 v).mul (e2 w));unfold F.subst
  rw[Z7,vS];refine Ov.add ?_ h2;show Ov _ _ (co (xO v _ false f.ts) w);rw[Zn w hc];split;{rename_i e;rw[<-e,show co f.ts v+-(co f.ts v)=0 by grind];exact Ov.zero};{rw[Rat.add_zero];exact (d2 w).up e1}
 {show Ov _ _ (f.c+(0+g.c*co f.ts v)*1);rw[Rat.zero_add,Rat.mul_one];exact (d3.up e1).add (by rw[Rat.mul_comm];exact (d2 v).mul e3)}
def Ka {f g:F}{v:Int}(hc:Cn f.ts)(w:Int):co (f.subst v g).ts w=(if v=w then 0 else co f.ts w)+co g.ts w*co f.ts v:=by grind [F.subst,Z7,vS,Zn]
def TL {S:Nat}{lo hi:Rat}(hl:Fits S lo)(hh:Fits S hi)(h:hi-lo≠0):∃ E:Nat,0<E/\E<B^(2*S+1)/\Ov E (2*S) (hi/(hi-lo))/\Ov E (2*S) (-(lo*hi)/(hi-lo)):=by
 have k1:=CE hi;have k2:=CE lo;have e2:2*S=S+S:=by omega
 have b1:=wA hh.num hl.den;have b2:=wA hl.num hh.den;have b3:=wA hl.num hh.num;rw[<-e2] at b1 b2 b3;obtain⟨e,he⟩:∃ e:Int,e=hi.num*lo.den-lo.num*hi.den:=⟨_,rfl⟩;have k3:(hi-lo)*(((hi.den:Int):Rat)*((lo.den:Int):Rat))=(e:Rat):=by rw[he,Rat.intCast_sub,Rat.intCast_mul,Rat.intCast_mul,<-k1,<-k2];grind
 have k5:hi/(hi-lo)*(e:Rat)=((hi.num*lo.den:Int):Rat):=by grind
 have k6:-(lo*hi)/(hi-lo)*(e:Rat)=((-(lo.num*hi.num):Int):Rat):=by grind
 have e0:e≠0:=λe0=>by rw[e0] at k3;have z1:((hi.den:Int):Rat)≠0:=λe=>hi.den_nz (by have:=Rat.intCast_inj.1 (e.trans (by rfl:(0:Rat)=((0:Int):Rat)));omega);have z2:((lo.den:Int):Rat)≠0:=λe=>lo.den_nz (by have:=Rat.intCast_inj.1 (e.trans (by rfl:(0:Rat)=((0:Int):Rat)));omega);grind
 refine⟨e.natAbs,by omega,?_,CM k5 (by grind [Int.natAbs_mul]),CM k6 (by grind [Int.natAbs_mul])⟩;have h5:B^(2*S+1)=B^(2*S)*B:=uS _ _;have h6:B^(2*S)*2<=B^(2*S)*B:=wQ _ (by decide);have h7:e.natAbs<=hi.num.natAbs*lo.den+lo.num.natAbs*hi.den:=by rw[he];refine vL (Int.natAbs_sub_le _ _) ?_;rw[eI,eI,Yf,Yf];omega
 omega
def Lf {p:F}{lo hi:Rat}{P S:Nat}(hp:p.cd P)(hl:Fits S lo)(hh:Fits S hi)(h:hi-lo≠0):((p.scale (hi/(hi-lo))).add (F.num (-(lo*hi)/(hi-lo)))).cd (P+2*S+1):=by obtain⟨D,d0,d1,d2,d3⟩:=hp;obtain⟨E,e0,e1,e2,e3⟩:=TL hl hh h;refine⟨D*E,Yd d0 e0,?_,λw=>?_,?_⟩;{have:=wA d1 e1;omega};{rw[Z7,kR,vS,Rat.add_zero];exact ((d2 w).mul e2).mono oM};{show Ov _ _ ((0+p.c*_)+(-(lo*hi)/(hi-lo))*1);rw[Rat.zero_add,Rat.mul_one];have h2:=e3.up d1;rw[kI] at h2;exact (d3.mul e2).add (h2.mono oM)}
def X7 {c:Rat}{N k:Nat}(hc:Fits N c):∀ {b a:List (Row×Rat)} {A:Nat},(∀ t,t∈b->Fits k t.2)->(∀ t,t∈a->Fits A t.2)->∀ t,t∈xR a b c->Fits (A+(k+N+1)*b.length) t.2
 |[],a,A,_,ha,t,ht=>by rw[dO];exact ha t ht| x::r,a,A,hb,ha,t,ht=>by have h1:=oT (r:=x.1) (y8 (hb x wI) hc) ha;have:=X7 hc (b:=r) (a:=plMq a x.1 (x.2*c)) (λu hu=>hb u (wJ _ hu)) h1 t ht;refine this.mono ?_;rw[rK,qS];omega
structure Pays (s:Scp) (N hi:Nat) (G H:Nat->Nat):Prop where
 m:∀ v,v<hi->G v<=G (v+1)/\H v<=H (v+1)
 b:∀ v:Nat,v<hi->∀ up b,s.ofB v up=some b->∃ m k,Fits m b.1.q/\(∀ t,t∈b.2->Fits k t.2)/\b.2.length<=2/\G v+m+1<=G (v+1)/\H v+(k+N+1)*b.2.length<=H (v+1)
def n8 {G:Nat->Nat}{hi:Nat}(h:∀ v,v<hi->G v<=G (v+1)){a b:Nat}(hab:a<=b)(hb:b<=hi):G a<=G b:=by
 induction b with
 |zero=>grind| succ b ih =>
  grind
def GC {D E N M e m:Nat}{a c b:Rat}(ha:Ov (D*E) M a)(hc:Ov D N c)(hb:Fits m b)(h1:E<B^e)(h2:e+N<=M):Ov (D*(E*b.den)) (M+m+1) (a+c*b):=by
 have n1:Ov (D*(E*b.den)) (M+m) a:=by have:=ha.up hb.den;grind
 have n2:Ov (D*(E*b.den)) (M+m) (c*b):=by have:=(hc.mul hb.ov).up h1;rw[fN,kI _ E] at this;exact this.mono oM
 exact n1.add n2
def Ff {s:Scp}{D N hi:Nat}{G H:Nat->Nat}(hG:Pays s N hi G H):∀ {ts:List (Int×Rat)} {a a':Rat} {l l':List (Row×Rat)} {lo M e E A:Nat},Cn ts->(∀ t,t∈ts->(lo:Int)<=t.1/\t.1<hi)->lo<=hi->(∀ t,t∈ts->Ov D N t.2/\Fits N t.2)->0<E->E<B^e->e+N<=M->Ov (D*E) M a->(∀ u,u∈l->Fits A u.2)->s.boxL ts a l=some (a',l') ->∃ M' e' E' A',0<E'/\E'<B^e'/\e'+N<=M'/\Ov (D*E') M' a'/\M'+G lo<=M+G hi/\A'+H lo<=A+H hi/\(∀ u,u∈l'->Fits A' u.2)/\l'.length<=l.length+2*ts.length
 |[],a,a',l,l',lo,M,e,E,A,_,_,hlh,_,h0,h1,h2,h3,h4,h=>by cases h;have:=n8 (λv hv=>(hG.m v hv).1) hlh (yD _);have:=n8 (λv hv=>(hG.m v hv).2) hlh (yD _);exact⟨M,e,E,A,h0,h1,h2,h3,by omega,by omega,h4,by simp⟩
 |t::r,a,a',l,l',lo,M,e,E,A,hc,hv,hlh,hf,h0,h1,h2,h3,h4,h=>by
  obtain⟨g1,g2⟩:=hv t wI;obtain⟨v,hv1⟩:∃ v:Nat,t.1=v:=⟨t.1.toNat,by omega⟩;unfold Scp.boxL at h;rw[hv1] at h;cases hb:s.ofB v (decide (yA t.2<0)) with
  |none=>grind| some b =>
   rw[hb] at h;obtain⟨m,k,b1,b2,b3,b4,b5⟩:=hG.b v oM _ b hb;obtain⟨c1,c2⟩:=hf t wI;have hl2:=n9 (vI t.2) b.2 l;obtain⟨M',e',E',A',k1,k2,k3,k4,k5,k6,k7,k8⟩:=Ff hG (lo:=v+1) (M:=M+m+1) (e:=e+m) (A:=A+(k+N+1)*b.2.length) hc.tail
    (λu hu=>by have:=hc.lt u hu;grind) oM (λu hu=>hf u (wJ _ hu))
    (Yd h0 b.1.q.den_pos) (wA h1 b1.den) oM (GC h3 c1 b1 h1 h2) (X7 (j8 c2) b2 h4) h
   have z1:=n8 (λv hv=>(hG.m v hv).1) (a:=lo) (b:=v) oM oM;have z2:=n8 (λv hv=>(hG.m v hv).2) (a:=lo) (b:=v) oM oM;refine⟨M',e',E',A',k1,k2,k3,k4,by omega,by omega,k7,?_⟩;grind
def HO {s:Scp}{N hi:Nat}{G H:Nat->Nat}(hG:Pays s N hi G H){f:F}(hf:f.cd N)(hw:f.wf (hi:Int))(i:Nat){a:Rat}{l:List (Row×Rat)}(h:s.boxL (f.ts.take i) f.c []=some (a,l)):Fits (N+1+G hi) a/\(∀ t,t∈l->Fits (H hi) t.2)/\l.length<=2*hi:=by
 have hfl:=hf.fl hw.cn (yD _);obtain⟨D,d0,d1,d2,d3⟩:=hf;obtain⟨M',e',E',A',k1,k2,k3,k4,k5,k6,k7,k8⟩:=Ff (D:=D) (lo:=0) (M:=N+1) (e:=1) (E:=1) (A:=0) hG (hw.cn.take i) (λt ht=>by have:=hw.v t (aE ht);omega) (xA _)
  (λt ht=>by have ht:=aE ht;have:=d2 t.1;rw[hw.cn.co_mem ht] at this;exact⟨this,hfl.t t ht⟩) Nat.one_pos (by decide) oM (by rw[tV];exact d3.mono oM) (λu hu=>absurd hu (by simp)) h
 have hl:=hw.len;have hl2:(f.ts.take i).length<=f.ts.length:=by grind
 refine⟨k4.fits (Yd d0 k1) ?_ |>.mono oM,λt ht=>(k7 t ht).mono oM,?_⟩;{exact uY (wA d1 k2) (dN w9 oM)};grind
theorem BD (raw:List UInt8)(a:Nat):Ov 4 1 (fdQ raw a).1:=by
 have h1:=kP (raw:=raw) (n:=9) (a:=a) (by decide);have key:∀ m k:Nat,m<9->∃ z:Int,i7 ((m:Int)-4) (dnm k)*(((4:Nat):Int):Rat)=(z:Rat)/\z.natAbs<B^1:=λm k hm=>by
  (have e:∀ m:Fin 9,∀ k:Fin 4,∃ z:Fin 33,i7 ((m.val:Int)-4) (dnm k.val)*(((4:Nat):Int):Rat)=(((z.val:Int)-16:Int):Rat):=by decide +kernel);have hk:dnm k=dnm (if k<4 then k else 3):=by split;{rfl};{unfold dnm;grind}
  obtain⟨z,hz⟩:=e ⟨m,hm⟩ ⟨if k<4 then k else 3,by grind⟩;refine⟨_,by rw[hk];exact hz,?_⟩;have:=z.isLt;have hB:B^1=4294967296:=rfl;omega
 exact key _ _ h1
def Qx (raw:List UInt8):∀ (n v:Nat) (f:F) (a:Nat),(∀ w,Ov 4 1 (co f.ts w))->Ov 4 1 f.c->(∀ w,(v:Int)<=w->co f.ts w=0)->(∀ w,Ov 4 1 (co (t8 raw n v f a).1.ts w))/\Ov 4 1 (t8 raw n v f a).1.c
 |0,v,f,a,h1,h2,h3=>⟨h1,h2⟩| n+1,v,f,a,h1,h2,h3=>by
  unfold t8;split
  ·(have e:∀ w,co (f.add ((F.var v).scale (fdQ raw (na raw a)).1)).ts w=co f.ts w+dlt v w*(fdQ raw (na raw a)).1:=λw=>by rw[Z7,vS,uQ]);refine Qx raw n (v+1) _ _ (λw=>?_) ?_ (λw hw=>?_)
   {rw[e];unfold dlt;split;{rename_i g;rw[h3 w oM,Rat.zero_add,Rat.one_mul];grind [BD]};grind};{show Ov 4 1 (f.c+(0+(0:Rat)*(fdQ raw (na raw a)).1)*1);grind};{rw[e,h3 w oM];unfold dlt;grind}
  {exact Qx raw n (v+1) f _ h1 h2 (λw hw=>h3 w oM)}
theorem BK (raw:List UInt8)(n a:Nat):(fdF raw n a).1.cd 1:=by obtain⟨h1,h2⟩:=Qx raw n 0 (F.num (fdQ raw a).1) (fdQ raw a).2 (λw=>by rw[kR];exact Ov.zero) (BD raw a) (λw _=>kR _ w);exact⟨4,by decide,by decide,h1,h2⟩
def BE {raw:List UInt8}{d:Nat}:∀ {n v a:Nat} {f:F},f∈(fdL raw d n v a).1->f.cd 1
 |0,v,a,f,h=>absurd h (by simp[fdL])| n+1,v,a,f,h=>by rcases yG.1 h with rfl|h;{grind [BK]};{exact BE (n:=n) h}
theorem F.cd.neg1 {f:F}{N:Nat}(h:f.cd N):(f.scale (-1)).cd N:=by obtain⟨D,h0,h1,h2,h3⟩:=h;refine⟨D,h0,h1,λw=>?_,?_⟩;{rw[vS,show co f.ts w * -1=-(co f.ts w) by grind];exact (h2 w).neg};{show Ov D N (0+f.c * -1);rw[show 0+f.c * -1=-f.c by grind];exact h3.neg}
structure RoIn (s:Scp) (r:Row):Prop where
 i:0<=r.i/\r.i<1024
 p:r.k=4->r.i<s.path.length
 lo:0<=r.lo/\r.lo<=s.lems.length
 hi:0<=r.hi/\r.hi<=s.lems.length
def KB:Nat->Nat
 |0=>60| 1=>184| 2=>556| _=>1672
def Vd (i:Nat):1<=KB i:=by unfold KB;grind
def AE (i:Nat):KB i<=1672:=by unfold KB;grind
structure Isz (x:FQry) (s:Scp):Prop where
 g:s.q.g=x.q.g
 r:s.q.r=x.q.r
 p:∀ d,d∈s.path->d.x.sz 3
 pl:s.path.length<=1000
 lb:LB KB s.lems
theorem tU (s:Scp)(j:Int):(s.best j).1<=s.lems.length/\(s.best j).2<=s.lems.length:=by constructor;{by_cases h:(s.best j).1=0;{omega};{obtain⟨m,hm,_⟩:=cE (s:=s) (unit:=j) (.inl rfl) h;grind}};{by_cases h:(s.best j).2=0;{omega};{obtain⟨m,hm,_⟩:=cE (s:=s) (unit:=j) (.inr rfl) h;grind}}
theorem sP {s:Scp}{k lo hi:Int}{j:Nat}(hj:j<1024)(hk:k≠4)(h1:0<=lo/\lo<=s.lems.length)(h2:0<=hi/\hi<=s.lems.length):RoIn s ⟨k,j,lo,hi⟩:=⟨by grind,λh=>absurd h hk,h1,h2⟩
def GZ {q:Qry}{up:Bool}{i:Int}{P:Bd->Prop}(n:Nat):∀ {l:List Dec} {k:Nat} {b:Bd},k+l.length<=n->P b->(∀ d,d∈l->∀ k:Nat,k<n->P (d.x,[(⟨4,k,0,0⟩,1)]))->P (inG q up i k l b)
 |[],k,b,_,h,_=>h| d::r,k,b,hn,h,hd=>by unfold inG;rw[rK] at hn;refine GZ n oM ?_ (λe he=>hd e (wJ _ he));grind
def T9 {x:FQry}{s:Scp}(hx:x.small)(h:Isz x s){i:Nat}(hi:i<x.g.n)(up:Bool):(s.inB i up).1.sz 3/\∃ r,(s.inB i up).2=[(r,1)]/\RoIn s r/\r.k<=4:=by
 have hn2:=hx.g.n2;have hpl:=h.pl;have z:(0:Int)<=0/\(0:Int)<=(s.lems.length:Int):=by omega
 have hs:∀ (g:Rat×Rat->Rat),(∀ b,b∈x.r.bs->Fits 3 (g b))->(((x.r.bs.map λb=>zI (g b))[((i:Int)).toNat]?).getD R0).sz 3:=λg hg=>by
  cases hy:(x.r.bs.map λb=>zI (g b))[((i:Int)).toNat]? with
  |none=>exact⟨xA _,xA _⟩| some y =>
   obtain⟨b,hb,rfl⟩:=yZ.1 (z3 hy);grind [zU]
 have hlo:((s.q.r.lo[((i:Int)).toNat]?).getD R0).sz 3:=by rw[h.r];exact hs Prod.fst λb hb=>(hx.r.bf b hb).1
 have hhi:((s.q.r.hi[((i:Int)).toNat]?).getD R0).sz 3:=by rw[h.r];exact hs Prod.snd λb hb=>(hx.r.bf b hb).2
 unfold Scp.inB;refine GZ (P:=λb=>b.1.sz 3/\∃ r,b.2=[(r,1)]/\RoIn s r/\r.k<=4) s.path.length oM ?_ (λd hd k hk=>⟨h.p d hd,_,rfl,⟨by grind,λ_=>by grind,z,z⟩,by grind⟩);cases up;{exact⟨hlo,_,rfl,sP oM (by decide) z z,by grind⟩};{exact⟨hhi,_,rfl,sP oM (by decide) z z,by grind⟩}
def Xe {s:Scp}(h:LB KB s.lems){j:Nat}(h0:(s.best j).1≠0):Fits (KB j) (s.vLo j):=Xd h (.inl rfl) h0
def Q4 {s:Scp}(h:LB KB s.lems){j:Nat}(h0:(s.best j).2≠0):Fits (KB j) (s.vHi j):=Xd h (.inr rfl) h0
def CR {s:Scp}{j:Nat}(hj:j<1024):RoIn s (s.onR j).1:=by grind [tU,Scp.onR,sP]
theorem GF {s:Scp}{j:Nat}(hj:j<1024):RoIn s (s.offR j).1:=by grind [tU,Scp.offR,sP]
structure BdOk (s:Scp) (b:Bd) (m k n:Nat):Prop where
 sz:b.1.sz m
 c:∀ t,t∈b.2->Fits k t.2
 r:∀ t,t∈b.2->RoIn s t.1
 len:b.2.length<=n
theorem bd1 {s:Scp}{x:R}{m k:Nat}{r:Row}(hx:x.sz m)(hk:1<=k)(hr:RoIn s r):BdOk s (x,[(r,1)]) m k 2 :=
 ⟨hx,λt ht=>by obtain rfl:=kJ.1 ht;exact fits_one.mono hk,λt ht=>by grind,by grind⟩
def bd2 {s:Scp}{x:R}{m k:Nat}{r r':Row}{a b:Rat}(hx:x.sz m)(ha:Fits k a)(hb:Fits k b)(hr:RoIn s r)(hr':RoIn s r'):BdOk s (x,[(r,a),(r',b)]) m k 2 :=
 ⟨hx,λt ht=>by
  grind,λt ht=>by
  grind,by grind⟩
def XR {x:FQry}{s:Scp}(hx:x.small)(h:Isz x s){v:Nat}(hv:v<x.g.n){up:Bool}{b:Bd}(hb:s.ofB v up=some b):BdOk s b 3 1 1/\(∀ t,t∈b.2->t.2=1/\t.1.k<=4):=by
 have hn:s.q.g.n=(x.g.n:Int):=by rw[h.g];rfl
 unfold Scp.ofB at hb;rw[hn,if_pos oM] at hb;cases hb;obtain⟨g1,r,g2,g3,g4⟩:=T9 hx h hv up;rw[g2];exact⟨⟨g1,λt ht=>by rw[g2] at ht;obtain rfl:=kJ.1 ht;exact fits_one,λt ht=>by grind,by grind⟩,λt ht=>by grind⟩
def Ho {x:FQry}{s:Scp}(h:Isz x s){j:Nat}(hj:j<1024){up:Bool}{b:Bd}(hb:s.ofB ((x.g.n+j:Nat):Int) up=some b):BdOk s b (KB j) (3*KB j+3) 2:=by
 have hn:s.q.g.n=(x.g.n:Int):=by rw[h.g];rfl
 have kp:=Vd j;have z0:R0.sz (KB j):=⟨xA _,xA _⟩;have hlb:=h.lb;have b1:=(tU s j).1;have b2:=(tU s j).2;have z:(0:Int)<=0/\(0:Int)<=(s.lems.length:Int):=by omega
 unfold Scp.ofB at hb;rw[hn,if_neg oM,show ((x.g.n+j:Nat):Int)-(x.g.n:Int)=(j:Int) by omega] at hb;split at hb
 ·unfold Scp.moB at hb;split at hb;{grind [bd1,GF]};split at hb;{cases hb};rename_i hc;have f2:=Q4 hlb (j:=j) (λe=>hc (.inl e));split at hb;{cases hb;exact bd2 (zU f2) (fits_one.mono oM) (fits_one.mono oM) (CR hj) (sP hj (by decide) z oM)}
  ·(rename_i hon;have f1:=Xe hlb (j:=j) (λe=>hc (.inr ⟨by grind,e⟩));have fi:Fits (2*KB j+2) (1/(s.vHi j-s.vLo j)):=by rw[jD];exact (y8 fits_one (bI (uC f2 f1))).mono oM);cases hb
   exact bd2 (zU f2) ((y8 fi f2).mono oM) (fi.mono oM) (sP hj (by decide) z oM) (sP hj (by decide) oM oM)
 {unfold Scp.leB at hb;split at hb;{grind [bd1,sP]};{rename_i hc;have f1:=Xe hlb (j:=j) (λe=>hc (.inl e));cases hb;exact bd2 (zU f1) (fits_one.mono oM) (fits_one.mono oM) (sP hj (by decide) z z) (sP hj (by decide) oM z)}}
def pgv (n:Nat):Nat->Nat
 |0=>0| v+1=>pgv n v+(if v<n then 4 else KB (v-n)+1)
def pgm (N n:Nat):Nat->Nat
 |0=>0| v+1=>pgm N n v+(if v<n then N+2 else 6*KB (v-n)+2*N+8)
def CI {n v:Nat}(h:v<n):pgv n (v+1)=pgv n v+4:=by show pgv n v+(if v<n then 4 else _)=_;grind
def CJ {N n v:Nat}(h:v<n):pgm N n (v+1)=pgm N n v+(N+2):=by show pgm N n v+(if v<n then N+2 else _)=_;grind
def TO (n j:Nat):pgv n (n+j+1)=pgv n (n+j)+(KB j+1):=by show pgv n (n+j)+(if n+j<n then 4 else _)=_;grind
def TR (N n j:Nat):pgm N n (n+j+1)=pgm N n (n+j)+(6*KB j+2*N+8):=by show pgm N n (n+j)+(if n+j<n then N+2 else _)=_;grind
def Hm (n v:Nat):pgv n v<=pgv n (v+1):=by grind [pgv]
def TQ (N n v:Nat):pgm N n v<=pgm N n (v+1):=by grind [pgm]
def Pb (n:Nat):∀ m,m<=n->pgv n m=4*m
 |0,_=>rfl| m+1,h=>by rw[CI oM,Pb n m oM];omega
def Pc (N n:Nat):∀ m,m<=n->pgm N n m=(N+2)*m
 |0,_=>rfl| m+1,h=>by rw[CJ oM,Pc N n m oM,QZ]
def Kx {x:FQry}{s:Scp}(hx:x.small)(h:Isz x s)(N:Nat){hi:Nat}(hh:hi<=x.g.n+x.g.us.length):Pays s N hi (pgv x.g.n) (pgm N x.g.n):=by have hus:=hx.g.us;refine⟨λv hv=>⟨Hm _ _,TQ _ _ _⟩,λv hv up b hb=>?_⟩;by_cases hvn:v<x.g.n;{obtain⟨g,_⟩:=XR hx h hvn hb;have e:=CI hvn;have e':=CJ (N:=N) hvn;refine⟨3,1,g.sz.fits (by decide),g.c,vL g.len (by decide),by omega,?_⟩;have:=wQ (1+N+1) g.len;omega};{obtain⟨j,rfl⟩:∃ j,v=x.g.n+j:=⟨v-x.g.n,by omega⟩;have g:=Ho h (j:=j) oM hb;have e:=TO x.g.n j;have e':=TR N x.g.n j;refine⟨KB j,3*KB j+3,g.sz.fits (Vd j),g.c,g.len,by omega,?_⟩;have:=wQ (3*KB j+3+N+1) g.len;omega}
def VV {l:List (Row×Rat)}{r:Row}{q:Rat}{P:Row->Prop}(hl:∀ t,t∈l->P t.1)(hr:P r):∀ t,t∈plMq l r q->P t.1:=λt ht=>by grind [plMq,U5]
def rT {c:Rat}{P:Row->Prop}:∀ {b a:List (Row×Rat)},(∀ t,t∈b->P t.1)->(∀ t,t∈a->P t.1)->∀ t,t∈xR a b c->P t.1
 |[],a,_,ha,t,ht=>ha t ht| x::r,a,hb,ha,t,ht=>rT (b:=r) (a:=plMq a x.1 (x.2*c)) (λu hu=>hb u (wJ _ hu)) (VV ha (hb x wI)) t ht
def WP {s:Scp}{P:Row->Prop}:∀ {ts:List (Int×Rat)} {a a':Rat} {l l':List (Row×Rat)},(∀ t,t∈ts->∀ up b,s.ofB t.1 up=some b->∀ u,u∈b.2->P u.1)->(∀ u,u∈l->P u.1)->s.boxL ts a l=some (a',l')->∀ u,u∈l'->P u.1
 |[],a,a',l,l',_,hl,h=>by cases h;exact hl
 |t::r,a,a',l,l',hb,hl,h=>by
  unfold Scp.boxL at h;cases hx:s.ofB t.1 (decide (yA t.2<0)) with
  |none=>grind| some b =>
   rw[hx] at h;exact WP (ts:=r) (λu hu=>hb u (wJ _ hu)) (rT (hb t wI _ b hx) hl) h
def QL {s:Scp}:∀ {ts:List (Int×Rat)} {a a':Rat} {l l':List (Row×Rat)},(∀ t,t∈ts->∀ up b,s.ofB t.1 up=some b->∀ u,u∈b.2->0<=u.2)->Rs l->s.boxL ts a l=some (a',l')->Rs l'
 |[],a,a',l,l',_,hl,h=>by cases h;exact hl
 |t::r,a,a',l,l',hb,hl,h=>by
  unfold Scp.boxL at h;cases hx:s.ofB t.1 (decide (yA t.2<0)) with
  |none=>grind| some b =>
   rw[hx] at h;exact QL (ts:=r) (λu hu=>hb u (wJ _ hu)) (ZC (Fo _) (hb t wI _ b hx) hl) h
def Ya {s:Scp}:∀ {ts:List (Int×Rat)} {a:Rat} {l:List (Row×Rat)},(∀ t,t∈ts->∀ up,(s.ofB t.1 up).isSome=true)->(s.boxL ts a l).isSome=true
 |[],a,l,_=>rfl| t::r,a,l,hb=>by
  unfold Scp.boxL;have:=hb t wI (decide (yA t.2<0));cases hx:s.ofB t.1 (decide (yA t.2<0)) with
  |none=>grind| some b=>exact Ya (ts:=r) (λu hu=>hb u (wJ _ hu))
def Cl {a b:Row}(h:v7 a b=true):a≠b:=λe=>TI (by rw[e] at h;exact h)
def Gz {r:Row}{q:Rat}:∀ {l:List (Row×Rat)},(∀ t,t∈l->t.1≠r)->∀ t,t∈plM r q l->t∈l\/t=(r,q)
 |[],_,t,h=>.inr (by grind [plM])| a::rest,hl,t,h=>by
  unfold plM at h;split at h
  ·rcases yG.1 h with rfl|h;{grind}
   ·rcases Gz (λu hu=>hl u (wJ _ hu)) t h with g|g
    all_goals grind
  grind
def X5 {c:Rat}:∀ {b a:List (Row×Rat)},Rs b->(∀ t,t∈b->∀ u,u∈a->u.1≠t.1)->∀ t,t∈xR a b c->t∈a\/∃ u,u∈b/\t=(u.1,u.2*c)
 |[],a,_,_,t,ht=>.inl ht| x::r,a,hb,hd,t,ht=>by
  (have key:∀ u,u∈plMq a x.1 (x.2*c)->u∈a\/u=(x.1,x.2*c):=λu hu=>by unfold plMq at hu;split at hu;{grind};{exact Gz (λw hw=>hd x wI w hw) u hu});rcases X5 (b:=r) (a:=plMq a x.1 (x.2*c)) hb.tail (λu hu w hw=>by
   rcases key w hw with g|g;{grind}
   ·rw[g];exact Cl (hb.lt u hu)) t ht with g|⟨u,hu,e⟩
  all_goals grind
def HZ {N:Nat}(h:1<=N):F.zero.cd N:=⟨1,by decide,uY (show 1<B^1 by decide) (dN w9 h),λw=>Ov.zero,Ov.zero⟩
def SN {x:FQry}{s:Scp}(h:Isz x s){j:Nat}(hj:j<1024){p:F}{c:Rat}{N:Nat}(hc:Fits N c)(hp:p.cd 1){n:Int}(hw:p.wf n){y:Row×F×Rat}(hr:s.repl p c j=some y):y.2.1.cd (2*KB j+2)/\y.2.1.wf n/\Fits (N+2*KB j+2) y.2.2/\RoIn s y.1/\5<=y.1.k:=by
 have ha:=j8 hc;have hlb:=h.lb;have b1:=(tU s j).1;have b2:=(tU s j).2;have z:(0:Int)<=0/\(0:Int)<=(s.lems.length:Int):=by omega
 have k8:5<=(s.onR j).1.k:=by grind [Scp.onR]
 have k10:5<=(s.offR j).1.k:=by grind [Scp.offR]
 unfold Scp.repl at hr;split at hr;{cases hr;refine⟨hp.mono oM,hw,ha.mono oM,?_,?_⟩;{split;{grind [sP]};{exact CR hj}};grind};rename_i hon;split at hr;{cases hr;refine⟨HZ oM,F.wf.zero0 n,ha.mono oM,?_,?_⟩;{split;{exact GF hj};grind [sP]};grind};rename_i hoff;split at hr;{split at hr;{cases hr;exact⟨hp.mono oM,hw,ha.mono oM,sP hj (by decide) z z,by grind⟩};{cases hr;exact⟨HZ oM,F.wf.zero0 n,ha.mono oM,sP hj (by decide) z z,by grind⟩}};split at hr;{cases hr};rename_i hb;have f1:=Xe hlb (j:=j) (λe=>hb (.inl e));have f2:=Q4 hlb (j:=j) (λe=>hb (.inr e));have g1:yA (s.vLo j)<0:=by unfold Scp.onR at hon;grind
 have g2:0<yA (s.vHi j):=by unfold Scp.offR at hoff;grind
 have hne:s.vHi j-s.vLo j≠0:=(eX (by grind [iI])).1;cases hr;refine⟨(Lf hp f1 f2 hne).mono oM,F.wf.add hw.scale (F.wf.num _ _),?_,sP hj (by decide) oM oM,by grind⟩;show Fits _ (vI c/(s.vHi j-s.vLo j));rw[jD];exact (y8 ha (bI (uC f2 f1))).mono oM
def sg:Nat->Nat
 |0=>0| i+1=>sg i+(2*KB i+4)
structure BP (x:FQry) (s:Scp) (T J i:Nat) (y:F×List (Row×Rat)):Prop where
 cd:∃ N,y.1.cd N/\N+sg (min i J)<=T
 wf:y.1.wf ((x.g.n+min i J:Nat):Int)
 l:∃ A,(∀ t,t∈y.2->Fits A t.2)/\A+min i J*T<=J*T
 len:y.2.length+min i J<=J
 rows:∀ t,t∈y.2->RoIn s t.1/\5<=t.1.k
def UE {x:FQry}{s:Scp}(hq:s.q.g=x.q.g){i:Nat}{pa:A}(hp:s.q.g.us[i]?=some pa):∃ g,x.g.us[i]?=some g/\pa=fA g:=by rw[hq] at hp;have hp':(x.g.us.map fA)[i]?=some pa:=hp;grind
def Uz {f:F}{n:Nat}(h:f.wf ((n+1:Nat):Int))(h0:co f.ts (n:Int)=0):f.wf (n:Int):=⟨h.cn,λt ht=>by
 obtain⟨h1,h2⟩:=h.v t ht;refine⟨h1,?_⟩;by_cases e:t.1=(n:Int);{exact absurd (by rw[<-h.cn.co_mem ht,e];exact h0) (h.cn.n t ht)}
 ·omega⟩
def Q9 {f g:F}{n:Nat}(hf:f.wf ((n+1:Nat):Int))(hg:g.wf (n:Int)):(f.subst (n:Int) g).wf (n:Int):=by
 have h1:(f.subst (n:Int) g).wf ((n+1:Nat):Int):=by refine F.wf.add ⟨Cn.plus hf.cn,λt ht=>?_⟩ (hg.mono oM).scale;rcases pX ht with e|⟨u,hu,e⟩;{omega};{rw[<-e];exact hf.v u hu}
 refine Uz h1 ?_;rw[Ka hf.cn,if_pos rfl,tP (l:=g.ts) (λt ht=>by have:=(hg.v t ht).2;omega)];grind
def VR {x:FQry}{s:Scp}(hx:x.small)(hok:x.ok)(h:Isz x s)(q4:∀ f,f∈x.g.us->f.cd 1){T J i:Nat}{pa:A}(hp:s.q.g.us[i]?=some pa){y z:F×List (Row×Rat)}(hy:BP x s T J (i+1) y)(hr:s.rep1 pa.f i y=some z):BP x s T J i z:=by
 have hn:s.q.g.n=(x.g.n:Int):=by rw[h.g];rfl
 obtain⟨g,hg,rfl⟩:=UE h.g hp;have hlt:=(wE.1 hg).1;have hus:=hx.g.us;rw[qG] at hr;obtain⟨⟨N,c1,c2⟩,w,⟨A,l1,l2⟩,len,rows⟩:=hy;unfold Scp.rep1 at hr;rw[hn,show (x.g.n:Int)+(i:Int)=((x.g.n+i:Nat):Int) by omega] at hr;by_cases hi:J<=i
 ·(have e1:min (i+1) J=J:=by omega);have e2:min i J=J:=by omega
  rw[e1] at c2 w l2 len;rw[tP (l:=y.1.ts) (λt ht=>by have:=(w.v t ht).2;omega),if_pos (by decide)] at hr;cases hr;exact⟨⟨N,c1,by grind⟩,by grind,⟨A,l1,by grind⟩,by omega,rows⟩
 ·(have e1:min (i+1) J=i+1:=by omega);have e2:min i J=i:=by omega
  have e3:sg (i+1)=sg i+(2*KB i+4):=rfl;have e4:(i+1)*T=i*T+T:=Nat.succ_mul _ _;rw[e1] at c2 w l2 len;rw[e3] at c2;rw[e4] at l2;split at hr;{rename_i h0;cases hr;exact⟨⟨N,c1,by grind⟩,by rw[e2];exact Uz w (Gc h0),⟨A,l1,by grind⟩,by omega,rows⟩}
  ·cases hrp:s.repl g (co y.1.ts ((x.g.n+i:Nat):Int)) i with
   |none=>grind| some v =>
    rw[hrp] at hr;cases hr;obtain⟨r1,r2,r3,r4,r5⟩:=SN h (by omega:i<1024) (c1.cof _) (q4 g (z3 hg)) (hok.us i g hg) hrp;refine⟨⟨_,c1.subst w.cn r1,by grind⟩,by rw[e2];exact Q9 w r2,⟨_,oT r3 l1,by grind⟩,?_,VV (P:=λr=>RoIn s r/\5<=r.k) rows ⟨r4,r5⟩⟩;grind [XM]
def Jv {x:FQry}{s:Scp}(hx:x.small)(hok:x.ok)(h:Isz x s)(q4:∀ f,f∈x.g.us->f.cd 1){T J:Nat}:∀ {i:Nat} {y z:F×List (Row×Rat)},BP x s T J i y->s.backG i y=some z->BP x s T J 0 z
 |0,y,z,hy,hz=>by cases hz;exact hy
 |i+1,y,z,hy,hz=>by
  unfold Scp.backG at hz;cases hp:s.q.g.us[i]? with
  |none=>grind| some p =>
   rw[hp] at hz;cases hr:s.rep1 p.f i y with
   |none=>grind| some w =>
    simp only[hr] at hz;exact Jv hx hok h q4 (VR hx hok h q4 hp hy hr) hz
theorem BP.start {x:FQry}{s:Scp}{f:F}{N0 J M:Nat}(hf:f.cd N0)(hw:f.wf ((x.g.n+J:Nat):Int))(hJ:J<=M):BP x s (N0+sg J) J M (f,[]):=by
 have e:min M J=J:=by omega
 exact⟨⟨N0,hf,by grind⟩,by grind,⟨0,λt ht=>absurd ht (by simp),by grind⟩,by grind,λt ht=>absurd ht (by simp)⟩
structure BackRes (x:FQry) (s:Scp) (T J:Nat) (g:F×List (Row×Rat)):Prop where
 cd:∃ N,g.1.cd N/\N<=T
 wf:g.1.wf (x.g.n:Int)
 l:∀ t,t∈g.2->Fits (J*T) t.2
 len:g.2.length<=J
 rows:∀ t,t∈g.2->RoIn s t.1/\5<=t.1.k
def Ju {x:FQry}{s:Scp}(hx:x.small)(hok:x.ok)(h:Isz x s)(q4:∀ f,f∈x.g.us->f.cd 1){f:F}{N0 J:Nat}(hf:f.cd N0)(hw:f.wf ((x.g.n+J:Nat):Int))(hJ:J<=x.g.us.length){g:F×List (Row×Rat)}(hg:s.back f=some g):BackRes x s (N0+sg J) J g:=by
 have hul:s.q.g.us.length=x.g.us.length:=by rw[h.g];exact y4 _
 have:=Jv hx hok h q4 (BP.start (x:=x) (s:=s) hf hw (M:=s.q.g.us.length) oM) hg;have e:min 0 J=0:=by omega
 obtain⟨⟨N,c1,c2⟩,w,⟨A,l1,l2⟩,len,rows⟩:=this;rw[e] at c2 w l2 len;rw[ZA] at l2;exact⟨⟨N,c1,by omega⟩,w,λt ht=>(l1 t ht).mono oM,by omega,rows⟩
end Go.Proofs.YtaeaffgjdcigoaaGreat
