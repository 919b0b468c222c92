/- A part of the proof: KcW, KsA, KsB, KsC, KsD, KsE, KsF, KsG. -/
import Derived.Test.YtaeaffgjdcigoaaGreatG45
import Derived.Test.YtaeaffgjdcigoaaGreatG34
import Derived.Test.YtaeaffgjdcigoaaGreatG24
import Derived.Test.YtaeaffgjdcigoaaGreatG47
import Derived.Test.YtaeaffgjdcigoaaGreatG16
import Derived.Test.YtaeaffgjdcigoaaGreatG33
import Derived.Test.YtaeaffgjdcigoaaGreatG28
set_option linter.all false
namespace Go.Proofs.YtaeaffgjdcigoaaGreat
open Go
set_option maxRecDepth 100000
set_option maxHeartbeats 8000000
def EX (raw:List UInt8)(hr:raw.length<2^38):zD 43 [u8v raw] (sv (dvd raw)):=by
 refine sF Tryz.f43 ?_;have c1:=EW raw hr;have c2:=λk=>Mj (tQ raw) (Gk raw) (by decide) (by decide) k;have he:dvd raw=if y5 raw%5<3 then (ext raw).run (y5 raw%5) else ext raw:=rfl
 have hle:=ZA raw;have hst:=λi w h=>lX (raw:=raw) (i:=i) (w:=w) h;obtain⟨E,hE⟩:=ex (dvd raw);rw[hE] at he ⊢;obtain⟨RN,hRN⟩:∃ RN:Nat->Scp,∀ k,RN k=(ext raw).run k:=⟨_,λ_=>rfl⟩;simp only[<-hRN] at c2 he;clear hRN hE;generalize ext raw=X at *;have hfull:raw.take raw.length=raw:=wW;obtain⟨S,hS⟩:∃ S:Nat->Nat,∀ i,S i=y5 (raw.take i):=⟨_,λ_=>rfl⟩;have hS0:S 0=0:=by rw[hS];rfl
 have hSl:y5 raw=S raw.length:=by rw[hS,hfull]
 rw[hSl] at he;simp only[<-hS] at hle hst;clear hS hSl hfull;dsimp only [sv] at *;cbv;refine cA c1 ?_;cbv;refine zW (σ:=Nat) (λi=>⟨[(0,u8v raw),(2,.ptr 2 0),(3,.ptr 3 0),(4,iV ((S i:Int))),(5,iV i)],
   [(2,.box [iV 0,.nil,.nil,.nil,.nil,.nil,.nil,.ff,.nil,.nil,.nil,.nil]),(3,.box (sc X))]⟩)
  (λi=>i<=raw.length) (λi=>raw.length-i) 0 (yU _) (.le (by cbv;repeat' first|exact trivial|exact lR|exact zB (by rw[hS0];rfl)|exact zB om|apply And.intro) okZ rfl) ?_
 intro i hi;cbv;refine zE (λh=>?_) (λh=>?_)
 ·(have hlt:i<raw.length:=by rw[zA] at h;exact om);obtain⟨w,hw⟩:=zO hlt
  have e:=hst i w hw;have e2:=hle i;have e3:=hle (i+1);have hw8:=w.toNat_lt;have e4:=BE w;clear hst hle c1 c2 he;cbv;refine yB hw mU n6 ?_;cbv;exact⟨zC (by rw[e4];exact om) (by rw[e4];exact om),zC om om,i+1,(show i+1<=_ by omega),(show raw.length-(i+1)<raw.length-i by omega),.le (by cbv;repeat' first|exact trivial|exact lR|exact zB (by rw[e4,e];exact om)|exact zB om|apply And.intro) okZ rfl⟩
 ·(have hi':i=raw.length:=by rw[zA] at h;exact om);subst hi'
  have hm:irem ((S raw.length:Nat):Int) 5=((S raw.length%5:Nat):Int):=uJ (b:=5);clear hst hle;generalize S raw.length=M at *;have c2':=c2 (M%5);clear c2;cbv;refine⟨vX om,?_⟩;cbv;refine zE (λg=>?_) (λg=>?_);{rw[if_pos (by exact om)] at he;subst he;cbv;refine⟨vX om,?_⟩;cbv;refine yP rfl (by exact⟨zB hm,okA,lR,trivial⟩) c2' rfl ?_;cbv;exact rA};{rw[if_neg (by exact om)] at he;subst he;cbv;exact rA}
def Hq:ty 63=.sli 2 16 [iV 0,.ff]:=by cbv
def Er (a b:yQ):zD 143 [.agg (ltc a),.agg (ltc b)] (iV (cI a.1 b.1)):=by refine sF Tryz.f143 ?_;have c:=KT a.1 b.1;generalize cI a.1 b.1=r at *;cbv;refine cA c ?_;cbv;exact rA
abbrev lao (n:Nat) (l:List yQ):List (Nat×Obj'):=[(n,aV 2 (enc ltc l))]
def Oo (l:List yQ)(hl:l.length<2^38):Sound 141 [jD l] [] [] (oV 100 2 l.length) [] (lao 100 l):=by
 refine sF Tryz.f141 ?_;cbv;refine⟨λb hb=>?_⟩;cbv;refine zP (λh=>?_) (λh=>?_)
 ·(have hb':=hb h;have hl0:l=[]:=by have:=congrArg List.length hb';grind [zA]);cbv;subst hl0;refine mC (ps':=⟨[(2,oV 100 2 0)],[(100,aV 2 ([]))]⟩) 100 (.trans (.le (ps':=⟨[(2,.nil)],[]⟩) ?_ trivial rfl) (.adoptT (ps:=⟨[(2,.nil)],[]⟩) 100 2 2 rfl rfl)) rfl rfl rfl ?_;{cbv;exact okA};{cbv;exact zZ rfl rfl}
 {cbv;refine wM Hq rfl rfl rfl rfl rfl (wJ wQ _) (z5 om (by simp only[iS,zA];exact om)) rfl ?_;cbv;refine mC (ps':=⟨[(2,oV 7 2 l.length)],[(7,aV 2 (enc ltc l))]⟩) 7 (.le ?_ ?_ rfl) rfl rfl rfl ?_;{cbv;exact⟨zZ rfl (by simp[zA]),trivial⟩};{cbv;exact⟨zH rfl,trivial⟩};{cbv;exact lR}}
def fM (x:yQ):List yQ->List yQ
 |[]=>[x]| y::r=>if cI x.1 y.1<0 then y::fM x r else x::y::r
def dB (l:List yQ):List yQ:=l.foldl (λa x=>fM x a) []
def Ju (x:yQ):∀ l,(fM x l).length=l.length+1
 |[]=>rfl| y::r=>by unfold fM;split <;> simp[Ju x r]
def DQ (l:List yQ)(x:yQ):dB (l++[x])=fM x (dB l):=by grind [dB]
theorem Wx:∀ l,(dB l).length=l.length:=by
 have:∀ (l a:List yQ),(l.foldl (λa x=>fM x a) a).length=a.length+l.length:=by
  intro l;induction l with
  |nil=>grind| cons x r ih=>intro a;rw[Kk,ih,Ju,bK];omega
 grind [dB]
def Of (l : List yQ) (hl : l.length ≤ 12) : Sound 234 [oV 1000000 2 l.length, iV 0, iV l.length, .fn 143 []] (lao 1000000 l) [] (.tup []) (lao 1000000 (dB l).reverse) [] := by
  refine sF Tryz.f234 ?_
  obtain ⟨P, hP⟩ : ∃ P : Nat → List yQ, ∀ i, P i = dB (l.take i) := ⟨_, fun _ => rfl⟩
  have hPl : ∀ i, i ≤ l.length → (P i).length = i := fun i hi => by grind [Wx]
  have hPs : ∀ i x, l[i]? = some x → P (i + 1) = fM x (P i) := fun i x hx => by
    rw [hP, hP, dI, hx]
    exact DQ _ _
  have hP1 : l ≠ [] → (P 1).reverse ++ l.drop 1 = l := fun h => by
    cases l with
    | nil => grind
    | cons x r => rw [hP]; rfl
  have hPe : dB l = P l.length := by grind
  have hP0 : l = [] → P l.length = [] := fun h => by grind
  rw [hPe]
  have hins : ∀ x y r, fM x (y :: r) = if cI x.1 y.1 < 0 then y :: fM x r else x :: y :: r := fun _ _ _ => rfl
  have hins0 : ∀ x, fM x [] = [x] := fun _ => rfl
  obtain ⟨I, hI⟩ := ex fM
  rw [hI] at hPs hins hins0
  clear hP hI hPe
  have hcmp := Er
  generalize hN : P l.length = R at *
  by_cases hle : l = []
  · have hR : R = [] := hP0 hle
    subst hle hR
    clear hPl hPs hP1 hP0 hN hins hins0
    cbv
    refine ⟨zC (by decide) (by decide), ?_⟩
    refine zW (σ := Unit) (fun _ => ⟨[(2, iV 0), (8, iV 1)], [(1000000, aV 2 ([]))]⟩) (fun _ => True) (fun _ => 0) () trivial (.le ?_ ?_ rfl) ?_
    · cbv; exact ⟨zB (by rfl), zB (by rfl), trivial⟩
    · cbv; exact ⟨zH rfl, trivial⟩
    intro _ _
    cbv
    refine yE (by decide) ?_
    cbv
    exact iM rfl trivial rfl rfl rfl rfl
  have hl1 : 1 ≤ l.length := by grind
  have hP1' := hP1 hle
  clear hP1 hP0
  cbv
  refine ⟨zC (by decide) (by decide), ?_⟩
  refine zW (σ := Nat) (fun i => ⟨[(0, oV 1000000 2 l.length), (1, iV 0), (2, iV l.length), (3, .fn 143 []), (8, iV i)], [(1000000, aV 2 (enc ltc ((P i).reverse ++ l.drop i)))]⟩)
    (fun i => 1 ≤ i ∧ i ≤ l.length) (fun i => l.length - i) 1 ⟨om, hl1⟩ (.le ?_ ?_ rfl) ?_
  · cbv
    exact ⟨lR, lR, lR, zB (by rfl), trivial⟩
  · cbv
    exact ⟨zH (by rw [hP1']), trivial⟩
  clear hP1'
  intro i hi
  obtain ⟨hi1, hi2⟩ := hi
  cbv
  refine zE (fun h5 => ?_) (fun h5 => ?_)
  · have hlt : i < l.length := by exact om
    obtain ⟨x, hx⟩ := zO hlt
    have hdr := zU hx
    have hPi := hPs i x hx
    have hPil := hPl i hi2
    have hPil1 := hPl (i + 1) hlt
    generalize hrest : l.drop (i + 1) = rest at *
    have hrl : rest.length = l.length - (i + 1) := by grind
    generalize hp0 : P i = p0 at *
    generalize hp1 : P (i + 1) = p1 at *
    clear hPs hPl
    cbv
    refine zW (σ := List yQ × List yQ) (fun s => ⟨[(0, oV 1000000 2 l.length), (1, iV 0), (2, iV l.length), (3, .fn 143 []), (8, iV i), (9, iV s.1.length)], [(1000000, aV 2 (enc ltc (s.1.reverse ++ x :: (s.2.reverse ++ rest))))]⟩)
      (fun s => s.1.length + s.2.length = i ∧ p1 = s.2 ++ I x s.1) (fun s => s.1.length) (p0, []) ⟨by omega, hPi⟩ (.le ?_ ?_ rfl) ?_
    · cbv
      exact ⟨lR, lR, lR, lR, zB (by exact om), trivial⟩
    · cbv
      exact ⟨zH (by grind), trivial⟩
    intro s hs
    obtain ⟨hL, hT⟩ := hs
    generalize s.1 = pr at *
    generalize s.2 = qr at *
    cases pr with
    | nil =>
      have hT' : p1 = qr ++ [x] := by grind
      cbv
      refine zM 17 (by cbv) ?_
      cbv
      refine yC (by simp) ?_
      cbv
      refine ⟨zC om om, i + 1, ⟨om, om⟩, om, .le ?_ ?_ rfl⟩
      · cbv
        exact ⟨lR, lR, lR, zB om, trivial⟩
      · cbv
        exact ⟨zH (by grind), trivial⟩
    | cons y pr =>
      rw [hins] at hT
      have hc := hcmp x y
      have hlen : (pr.reverse ++ y :: x :: (qr.reverse ++ rest)).length = l.length := by grind
      have earr : (y :: pr).reverse ++ x :: (qr.reverse ++ rest) = pr.reverse ++ y :: x :: (qr.reverse ++ rest) := by simp
      have hgj : (pr.reverse ++ y :: x :: (qr.reverse ++ rest))[pr.length + 1]? = some x := by
        rw [ZH (by simp)]
        simp_all
      have hgj1 : (pr.reverse ++ y :: x :: (qr.reverse ++ rest))[pr.length]? = some y := by
        rw [ZH (by simp)]
        simp
      have hset : ((pr.reverse ++ y :: x :: (qr.reverse ++ rest)).set (pr.length + 1) y).set pr.length x = pr.reverse ++ x :: ((qr ++ [y]).reverse ++ rest) := by
        have := Ra pr.reverse (qr.reverse ++ rest) x y
        grind
      rw [bK] at hL
      simp only [earr, bK]
      generalize hA : pr.reverse ++ y :: x :: (qr.reverse ++ rest) = arr at *
      generalize cI x.1 y.1 = cr at *
      cbv
      refine zM 17 (by cbv) ?_
      cbv
      refine vN (by exact om) ?_
      cbv
      refine ⟨yZ om om, ?_⟩
      cbv
      refine uM (l := arr) (pr.length + 1) om oM xX wQ (fun t ht => ?_)
      obtain rfl : x = t := by grind
      cbv
      refine ⟨zC om om, yZ om om, ?_⟩
      cbv
      refine uM (l := arr) pr.length om oM xX wQ (fun t' ht' => ?_)
      obtain rfl : y = t' := by grind
      cbv
      refine dA hc ?_
      cbv
      refine zE (fun e1 => ?_) (fun e1 => ?_)
      · rw [if_pos e1] at hT
        cbv
        have hix0 : ∀ k : Nat, k = pr.length + 1 → ((enc ltc arr).set k (xE (ltc y))) = enc ltc (arr.set (pr.length + 1) y) := fun k hk => by rw [hk, tS]
        have hix1 : ∀ k j : Nat, k = pr.length + 1 → j = pr.length → ((enc ltc arr).set k (xE (ltc y))).set j (xE (ltc x)) = enc ltc ((arr.set (pr.length + 1) y).set pr.length x) := fun k j hk hj => by grind [tS]
        refine rN (σ := Unit) (fun _ => ⟨[(0, oV 1000000 2 l.length), (1, iV 0), (2, iV l.length), (3, .fn 143 []), (8, iV i), (9, iV (((pr.length + 1 : Nat) : Int)))], [(1000000, aV 2 (enc ltc ((arr.set (pr.length + 1) y).set pr.length x)))]⟩) (fun _ => True) (Wk.sel _ [0, 1, 2, 3, 8, 9] [1000000] rfl) (by cbv) ?_ ?_
        · cbv
          repeat' first
            | exact trivial
            | (refine ⟨(), trivial, .le (by cbv; repeat' first | exact trivial | exact lR | apply And.intro) ?_ rfl⟩
               cbv; exact ⟨zH (show ((enc ltc arr).set (0 + ((pr.length + 1 : Nat) : Int).toNat) (xE (ltc y))).set (0 + (((pr.length + 1 : Nat) : Int) - 1).toNat) (xE (ltc x)) = _ from hix1 _ _ oM oM), trivial⟩)
            | (refine ⟨zC om om, ?_⟩; cbv)
            | (refine ⟨yZ om om, ?_⟩; cbv)
            | (refine uM (l := arr) pr.length ?_ oM xX wQ (fun t' ht' => ?_)
               · exact om
               obtain rfl := vO (hgj1.symm.trans ht')
               cbv)
            | (refine uM (l := arr) (pr.length + 1) ?_ oM xX wQ (fun t' ht' => ?_)
               · exact om
               obtain rfl := vO (hgj.symm.trans ht')
               cbv)
            | (refine tT (p := ltc) (arr.set (pr.length + 1) y) (hix0 _ ?_) pr.length ?_ (by rw [List.length_set]; omega) xX wQ (fun t1 ht1 => ?_)
               · exact om
               · exact om
               cbv)
            | apply And.intro
        intro _ _
        cbv
        refine ⟨zC om om, (pr, qr ++ [y]), ⟨by grind, by rw [hT]; simp⟩, by simp, .le ?_ ?_ rfl⟩
        · cbv
          exact ⟨lR, lR, lR, lR, zB om, trivial⟩
        · cbv
          exact ⟨zH (by rw [hset]), trivial⟩
      · rw [if_neg e1] at hT
        cbv
        refine ⟨zC om om, i + 1, ⟨om, om⟩, om, .le ?_ ?_ rfl⟩
        · cbv
          exact ⟨lR, lR, lR, zB om, trivial⟩
        · cbv
          exact ⟨zH (by rw [hp1, hrest, hT, ← hA]; simp), trivial⟩
  · have hi' : i = l.length := by exact om
    subst hi'
    cbv
    refine ZR (.le (ps' := ⟨[], [(1000000, aV 2 (enc ltc R.reverse))]⟩) ?_ ?_ rfl) rfl trivial rfl rfl rfl rfl
    · trivial
    · cbv
      exact ⟨zH (by grind), trivial⟩
def M9:Pg.funcs[222]?=some Tryz.f222:=by rw[uZ];rfl
def N5 (x:Nat)(hx:x<=255):zD 222 [.int .u64 (λ_=>(x:Int))] (iV ((Lib.bitLen x:Int))):=by refine Yp M9 rfl rfl λw=>?_;have:=LP (x:Int) w oM oM;rw[mG] at this;rw[uZ];exact this
def Eu (x:Nat)(hx:x<=255):zD 179 [.int .u64 (λ_=>(x:Int))] (iV ((Lib.bitLen x:Int))):=by refine sF Tryz.f179 ?_;have c:=N5 x hx;generalize Lib.bitLen x=r at *;cbv;refine cA c ?_;cbv;exact rA
def Ep (l:List yQ)(hl:l.length<=12)(lim:Int):Sound 190 [oV 1000000 2 l.length,iV 0,iV l.length,iV lim,.fn 143 []] (lao 1000000 l) [] (.tup []) (lao 1000000 (dB l).reverse) []:=by refine sF Tryz.f190 ?_;have ci:=Of l hl;generalize (dB l).reverse=R at *;cbv;refine zW (σ:=Unit) (λ_=>⟨[(0,oV 1000000 2 l.length),(1,iV 0),(2,iV l.length),(3,iV lim),(4,.fn 143 []),(10,.tt),(11,.tt)],lao 1000000 l⟩) (λ_=>True) (λ_=>0) () trivial (.le (by cbv;repeat' first|exact trivial|exact lR|apply And.intro) (by cbv;repeat' first|exact trivial|exact zH rfl|apply And.intro) rfl) ?_;intro _ _;cbv;refine⟨zC om om,?_⟩;cbv;refine wZ (by exact om) ?_;cbv;refine bS (λn=>n) (Wk.sel _ [26,27,28,29] [1000000] rfl) rfl (by exact⟨lR,lR,lR,⟨rfl,trivial⟩,trivial⟩) ci okR rfl rfl rfl rfl rfl rfl rfl rfl ?_;cbv;exact iM rfl trivial rfl rfl rfl rfl
def Ek (l:List yQ)(hl:l.length<=12):Sound 142 [oV 1000000 2 l.length,.fn 143 []] (lao 1000000 l) [] (.tup []) (lao 1000000 (dB l).reverse) []:=by
 refine sF Tryz.f142 ?_;have cl:=Eu l.length oM;have ci:=Ep l hl (Lib.bitLen l.length);generalize (dB l).reverse=R at *;generalize Lib.bitLen l.length=r at *;have hn:nx .u64 (l.length:Int)=(l.length:Int):=by unfold nx;simp[IntKind.wrap,IntKind.signed,IntKind.bits];omega
 cbv;refine yP rfl (by exact⟨zB hn,trivial⟩) cl rfl ?_;cbv;refine bS (λn=>n) (Wk.sel _ [7,8,11,12] [1000000] rfl) rfl (by exact⟨lR,lR,lR,lR,⟨rfl,trivial⟩,trivial⟩) ci okR rfl rfl rfl rfl rfl rfl rfl rfl ?_;cbv;exact iM rfl trivial rfl rfl rfl rfl
def o7:List yQ->Prop
 |a::b::r=>a≠b/\o7 (b::r)| _=>True
def K8:∀ {l:List yQ},o7 l->∀ (i:Nat) (a b:yQ),l[i]?=some a->l[i+1]?=some b->a≠b
 |[],_,_,_,_,h,_=>by simp at h| [x],_,i,a,b,_,h=>by simp at h| x::y::r,h,0,a,b,h1,h2=>by simp only[mH,p9,pE] at h1 h2;rw[<-h1,<-h2];exact h.1| x::y::r,h,i+1,a,b,h1,h2=>K8 h.2 i a b (by simpa using h1) (by simpa using h2)
def Ok (l:List yQ)(hl:l.length<2^38)(hn:o7 l):Sound 145 [oV 1000000 2 l.length] (lao 1000000 l) [] (oV 1000000 2 l.length) (lao 1000000 l) []:=by
 refine sF Tryz.f145 ?_;have hne:=K8 hn;clear hn;cbv;refine zE (λh=>?_) (λh=>?_);{cbv;exact iM rfl (lR) rfl rfl rfl rfl};cbv;refine zW (σ:=Nat) (λi=>⟨[(0,oV 1000000 2 l.length),(3,iV (((i+1:Nat):Int)))],lao 1000000 l⟩) (λi=>i+1<=l.length) (λi=>l.length-i) 0 (by show 0+1<=l.length;exact om) (.le okZ (by cbv;repeat' first|exact trivial|exact zH rfl|apply And.intro) rfl) ?_;intro i hi;cbv;refine zE (λh5=>?_) (λh5=>?_)
 ·(have hlt:i+1<l.length:=by exact om);obtain⟨b,hb⟩:=zO hlt
  (obtain⟨a,ha⟩:=zO (l:=l) (i:=i) oM;have hab:=hne i a b ha hb;clear hne;cbv;refine zM 9 (by cbv) ?_;cbv;refine⟨yZ om om,uM (l:=l) (i+1) om oM xX wQ (λt ht=>?_)⟩;obtain rfl:b=t:=by rw[hb] at ht;exact vO ht);cbv
  (refine⟨zC om om,yZ om om,uM (l:=l) i om oM xX wQ (λt ht=>?_)⟩;obtain rfl:a=t:=by rw[ha] at ht;exact vO ht);cbv
  refine Q2 ?_;cbv;refine yE (λe=>hab e.symm) ?_;cbv;exact⟨zC om om,i+1,(show i+1+1<=l.length by omega),(show l.length-(i+1)<l.length-i by omega),.le (by cbv;repeat' first|exact trivial|exact lR|exact zB om|apply And.intro) (by cbv;repeat' first|exact trivial|exact zH rfl|apply And.intro) rfl⟩
 {cbv;exact iM rfl (lR) rfl rfl rfl rfl}
def mkP (l:List yQ):Option (List yQ):=if clG none (dB l).reverse=true then some (dB l).reverse else none
def Eq (l:List yQ)(hl:l.length<=12)(hn:o7 (dB l).reverse):zD 68 [jD l] (.tup [jD ((mkP l).getD []),bV ((mkP l).isSome)]):=by
 refine sF Tryz.f68 ?_;have hm:mkP l=if clG none (dB l).reverse=true then some (dB l).reverse else none:=rfl
 have c1:=Oo l oM;have c2:=Ek l hl;have hrl:(dB l).reverse.length=l.length:=by rw[List.length_reverse,Wx]
 generalize (dB l).reverse=R at *;have c3:=Ok R oM hn;have c4:=N6 R oM;rw[hrl] at c3;have hT:((enc ltc R).drop 0).take l.length=enc ltc R:=by rw[xM,<-hrl,<-zA ltc R,wW]
 have hfr:0+l.length<=(enc ltc R).length:=by rw[zA];omega
 generalize mkP l=o at *;generalize clG none R=b at *;clear hn;cbv;refine kW (λ_=>300) (Wk.sel _ [5] [] rfl) c1 ?_;cbv;refine bS (λ_=>300) (Wk.sel _ [4,7] [300] rfl) rfl (by exact⟨lR,⟨rfl,trivial⟩,trivial⟩) c2 okR rfl rfl rfl rfl rfl rfl rfl rfl ?_;cbv;refine kW (λ_=>300) (Wk.sel _ [4,9] [300] rfl) c3 ?_;cbv;refine qF (.frz 300 rfl rfl (by cbv;repeat' first|exact trivial|exact z8 hfr|apply And.intro) (by cbv;repeat' first|exact trivial|apply And.intro)) rfl (by exact⟨zS hT,trivial⟩) c4 rfl ?_;cbv;refine zP (λe=>?_) (λe=>?_)
 ·rw[if_pos e] at hm;subst hm;cbv
  (refine rC ?_;cbv)
  exact⟨zS hT,yH rfl,trivial⟩
 {rw[if_neg (by rw[e];exact Vs)] at hm;subst hm;cbv;exact rA}
def ixI (l:List Int) (x:Int):Int:=wH (λy=>decide (x=y)) l
def Oh (l:List Int)(x:Int)(hl:l.length<2^38):zD 70 [zlv l,iV x] (iV (ixI l x)):=by
 refine sF Tryz.f70 ?_;obtain⟨r,hr⟩:=ex (ixI l x);have h0:r=Zp (λy=>decide (x=y)) (0:Nat) (l.drop 0):=by rw[<-hr];exact (Z7 _ _).symm
 have hn:∀ i:Int,Zp (λy=>decide (x=y)) i []=-1:=λi=>rfl;have hc:∀ (i:Nat) a,l[i]?=some a->Zp (λy=>decide (x=y)) (i:Nat) (l.drop i)=if x=a then (i:Int) else Zp (λy=>decide (x=y)) ((i+1:Nat):Int) (l.drop (i+1)):=λi a h=>by rw[zU h,Z8];grind
 rw[hr];obtain⟨I,hI⟩:∃ I:Nat->Int,∀ i,I i=Zp (λy=>decide (x=y)) (i:Nat) (l.drop i):=⟨_,λ_=>rfl⟩;simp only[<-hI] at hc h0;have hN:I l.length=-1:=by grind
 clear hn hI hr;cbv;refine zW (σ:=Nat) (λi=>⟨[(0,zlv l),(1,iV x),(7,iV l.length),(8,iV i)],[]⟩) (λi=>i<=l.length/\r=I i) (λi=>l.length-i) 0 ⟨yU _,h0⟩ (.le (by cbv;exact⟨lR,lR,zB (by (try dsimp only [zY] at *);rw[zA]),lR,trivial⟩) okZ rfl) ?_;intro i hi;obtain⟨h1,h2⟩:=hi;clear h0;cbv;refine zE (λh=>?_) (λh=>?_)
 ·(have hlt:i<l.length:=by exact om);obtain⟨a,ha⟩:=zO hlt
  have h3:=hc i a ha;clear hc;cbv;refine yB ha kY dC ?_;cbv;refine zE (λe=>?_) (λe=>?_)
  ·rw[if_pos e] at h3;cbv
   (refine rC ?_;cbv)
   exact zB oM
  {rw[if_neg e] at h3;cbv;exact⟨zC om om,i+1,⟨(show i+1<=_ by omega),h2.trans h3⟩,(show l.length-(i+1)<l.length-i by omega),wkZ⟩}
 ·(have hi':i=l.length:=by exact om);rw[hi',hN] at h2
  cbv
  (refine rC ?_;cbv)
  exact zB h2.symm
def M7 (l:List Int)(x:Int):-1<=ixI l x/\ixI l x<=l.length:=⟨aG _ _,by
 have:=Zo (λy=>decide (x=y)) l;exact this⟩
abbrev lnO (M:List Int):List (Nat×Obj'):=[(1000000,.box [zlv M])]
abbrev lnF:PV:=.fn 69 [.ptr 1000000 0]
def Ev (M:List Int)(n:Int)(hl:M.length<2^38):Sound 69 [iV n,.ptr 1000000 0] (lnO M) [] (iV (ixI M n)) (lnO M) []:=by refine sF Tryz.f69 ?_;have c:=Oh M n hl;generalize ixI M n=r at *;cbv;refine cA c ?_;cbv;exact iM rfl (lR) rfl rfl rfl rfl
def ZQ (M:List Int) (x:Int):Int:=if 0<x then ixI M (x-1)+1 else x
def rnP (M:List Int) (m:Mult):Mult:=⟨⟨m.row.k,m.row.i,ZQ M m.row.lo,ZQ M m.row.hi⟩,m.c⟩
def NY (M:List Int)(l:List Mult)(hM:M.length<2^38)(hl:l.length<2^38)(hr:∀ m,m∈l->Rsm m.row):Sound 72 [mlv l,lnF] (lnO M) [] (mlv (l.map (rnP M))) (lnO M) []:=by
 refine sF Tryz.f72 ?_;have c1:=Om l hl;have c2:=λn=>Ev M n hM;have hb:=M7 M;cbv;refine kW (λn=>300) (Wk.sel _ [1,9] [1000000] rfl) c1 ?_;cbv;refine zW (σ:=Nat) (λi=>⟨[(1,lnF),(5,oV 300 7 l.length),(12,iV l.length),(13,iV i)],[(1000000,.box [zlv M]),(300,aV 7 (enc mc ((l.take i).map (rnP M)++l.drop i)))]⟩) (λi=>i<=l.length) (λi=>l.length-i) 0 (yU _) (.le okZ (by cbv;repeat' first|exact trivial|exact lR|exact zH (by simp)|apply And.intro) rfl) ?_;intro i hi;cbv;refine zE (λh=>?_) (λh=>?_)
 ·(have hlt:i<l.length:=by exact om);obtain⟨m,hm⟩:=zO hlt
  (have hrm:=hr m (zX hm);have hdr:=zU hm;obtain⟨pre,hpre⟩:∃ X,(l.take i).map (rnP M)=X:=⟨_,rfl⟩;obtain⟨post,hpost⟩:=ex (l.drop (i+1));have hpl:pre.length=i:=by grind);obtain⟨mk,hmk⟩:∃ mk:Nat->Mult,∀ k,mk k=⟨⟨m.row.k,m.row.i,if 0<k then ZQ M m.row.lo else m.row.lo,if 1<k then ZQ M m.row.hi else m.row.hi⟩,m.c⟩:=⟨_,λ_=>rfl⟩
  (have hm0:mk 0=m:=by simp_all);have hm2:mk 2=rnP M m:=by rw[hmk];rfl
  (have hlen:∀ k,(pre++mk k::post).length=l.length:=λk=>by grind);have hget:∀ k,(pre++mk k::post)[i]?=some (mk k):=λk=>by grind
  (have hset:∀ k x,(pre++mk k::post).set i x=pre++x::post:=λk x=>by simp_all);rw[hpre,hdr,hpost,<-hm0]
  cbv;refine rN (σ:=Unit) (λ_=>⟨[(1,lnF),(5,oV 300 7 l.length),(12,iV l.length),(13,iV i),(26,oV 26 1 2),(27,iV 2),(28,iV 0)],
    [(1000000,.box [zlv M]),(300,aV 7 (enc mc (pre++mk 0::post))),(26,.box [.aptr 300 7 (λ_=>0+((i:Nat):Int).toNat) 2,.aptr 300 7 (λ_=>0+((i:Nat):Int).toNat) 3])]⟩) (λ_=>True) (Wk.sel _ [1,5,6,12,13] [1000000,300] rfl) (by cbv) ?_ ?_
  ·cbv
   repeat' first
    |exact trivial
    |(refine⟨yZ om om,?_⟩;cbv)
    |exact⟨(),trivial,.le (by cbv;repeat' first|exact trivial|exact lR|apply And.intro) (by cbv;repeat' first|exact trivial|exact lR|exact zH rfl|apply And.intro) rfl⟩
    |apply And.intro
  intro _ _;cbv;refine zW (σ:=Nat) (λk=>⟨[(1,lnF),(5,oV 300 7 l.length),(12,iV l.length),(13,iV i),(26,oV 26 1 2),(27,iV 2),(28,iV k)],
    [(1000000,.box [zlv M]),(300,aV 7 (enc mc (pre++mk k::post))),(26,.box [.aptr 300 7 (λ_=>0+((i:Nat):Int).toNat) 2,.aptr 300 7 (λ_=>0+((i:Nat):Int).toNat) 3])]⟩) (λk=>k<=2) (λk=>2-k) 0 (by decide) (.le okZ (by cbv;repeat' first|exact trivial|exact lR|exact zH rfl|apply And.intro) rfl) ?_
  intro k hk;cbv;refine zE (λh2=>?_) (λh2=>?_)
  ·rcases (by exact om:k=0\/k=1) with rfl|rfl
   ·(have hrl:=hrm.2.1;have hg0:=hget 0;have e0:(mk 0).row.lo=m.row.lo:=by grind);have c3:=c2 (m.row.lo-1)
    (have hb3:=hb (m.row.lo-1);have e1:0<m.row.lo->mk 1=⟨⟨(mk 0).row.k,(mk 0).row.i,ixI M (m.row.lo-1)+1,(mk 0).row.hi⟩,(mk 0).c⟩:=λh=>by simp only[hmk];simp[ZQ,h]);have e2:¬0<m.row.lo->mk 1=mk 0:=λh=>by simp only[hmk];simp[ZQ,h]
    (generalize ixI M (m.row.lo-1)=z at *;rw[<-e0] at hrl c3 e1 e2;have hs0:=hset 0;have hl0:=hlen 0;clear hget hset hlen hmk hm0 hm2 hb c1 c2;obtain⟨q',hq'⟩:=ex (mk 1);rw[hq'] at e1 e2;generalize mk 0=q at *;clear e0;cbv;refine⟨yZ om om,⟨⟨(by grind),?_⟩⟩⟩;cbv;refine uM (l:=pre++q::post) i om oM wY xN (λt ht=>?_);obtain rfl:q=t:=by grind);cbv
    refine zE (λh3=>?_) (λh3=>?_)
    ·(have e1':=e1 h3;clear e1 e2;cbv;refine uM (l:=pre++q::post) i om oM wY xN (λt ht=>?_);obtain rfl:q=t:=by grind);cbv
     (refine⟨zC om om,?_⟩;cbv;refine kA (λn=>n) c3 ?_;cbv;refine⟨zC om om,uM (l:=pre++q::post) i om oM wY xN (λt ht=>?_)⟩;obtain rfl:q=t:=by grind);cbv
     (have hels:(enc mc (pre++q::post)).set (0+((i:Nat):Int).toNat) (xE (mc ⟨⟨q.row.k,q.row.i,z+1,q.row.hi⟩,q.c⟩))=enc mc (pre++mk 1::post):=by rw[tS,show 0+((i:Nat):Int).toNat=i by omega,hs0,hq',e1']);exact⟨zC om om,1,(by decide),(by decide),.le okZ (by cbv;repeat' first|exact trivial|exact lR|exact zH hels|apply And.intro) rfl⟩
    {have e2':=e2 h3;clear e1 e2;cbv;exact⟨zC om om,1,(by decide),(by decide),.le okZ (by cbv;repeat' first|exact trivial|exact lR|exact zH (by rw[hq',e2'])|apply And.intro) rfl⟩}
   ·(have hrl:=hrm.2.2;have hg0:=hget 1;have e0:(mk 1).row.hi=m.row.hi:=by grind);have c3:=c2 (m.row.hi-1)
    (have hb3:=hb (m.row.hi-1);have e1:0<m.row.hi->mk 2=⟨⟨(mk 1).row.k,(mk 1).row.i,(mk 1).row.lo,ixI M (m.row.hi-1)+1⟩,(mk 1).c⟩:=λh=>by simp only[hmk];simp[ZQ,h]);have e2:¬0<m.row.hi->mk 2=mk 1:=λh=>by simp only[hmk];simp[ZQ,h]
    (generalize ixI M (m.row.hi-1)=z at *;rw[<-e0] at hrl c3 e1 e2;have hs0:=hset 1;have hl0:=hlen 1;clear hget hset hlen hmk hm0 hm2 hb c1 c2;obtain⟨q',hq'⟩:=ex (mk 2);rw[hq'] at e1 e2;generalize mk 1=q at *;clear e0;cbv;refine⟨yZ om om,⟨⟨(by grind),?_⟩⟩⟩;cbv;refine uM (l:=pre++q::post) i om oM wY xN (λt ht=>?_);obtain rfl:q=t:=by grind);cbv
    refine zE (λh3=>?_) (λh3=>?_)
    ·(have e1':=e1 h3;clear e1 e2;cbv;refine uM (l:=pre++q::post) i om oM wY xN (λt ht=>?_);obtain rfl:q=t:=by grind);cbv
     (refine⟨zC om om,?_⟩;cbv;refine kA (λn=>n) c3 ?_;cbv;refine⟨zC om om,uM (l:=pre++q::post) i om oM wY xN (λt ht=>?_)⟩;obtain rfl:q=t:=by grind);cbv
     (have hels:(enc mc (pre++q::post)).set (0+((i:Nat):Int).toNat) (xE (mc ⟨⟨q.row.k,q.row.i,q.row.lo,z+1⟩,q.c⟩))=enc mc (pre++mk 2::post):=by rw[tS,show 0+((i:Nat):Int).toNat=i by omega,hs0,hq',e1']);exact⟨zC om om,2,(by decide),(by decide),.le okZ (by cbv;repeat' first|exact trivial|exact lR|exact zH hels|apply And.intro) rfl⟩
    {have e2':=e2 h3;clear e1 e2;cbv;exact⟨zC om om,2,(by decide),(by decide),.le okZ (by cbv;repeat' first|exact trivial|exact lR|exact zH (by rw[hq',e2'])|apply And.intro) rfl⟩}
  ·(have hk2:k=2:=by exact om);subst hk2
   (have he:(l.take (i+1)).map (rnP M)++l.drop (i+1)=pre++mk 2::post:=by rw[dI,hm,hpost,hm2,gH,hpre,Ha];rfl);clear hget hset hlen hmk hm0 hm2 hb c1 c2
   cbv;exact⟨zC om om,i+1,(show i+1<=l.length by omega),(show l.length-(i+1)<l.length-i by omega),.le okZ (by cbv;repeat' first|exact trivial|exact lR|exact zH (by rw[he])|apply And.intro) rfl⟩
 ·(have hi':i=l.length:=by exact om);have hT:(((enc mc ((l.take i).map (rnP M)++l.drop i)).drop 0).take l.length)=enc mc (l.map (rnP M)):=by rw[hi',wW,wD,kN,xM,yW (by rw[zA,y8];omega)]
  (have hfr:0+l.length<=(enc mc ((l.take i).map (rnP M)++l.drop i)).length:=by rw[zA,bU,y8,kV,Vx];omega);cbv
  refine ZR (.trans (.frz 300 rfl rfl (by cbv;repeat' first|exact trivial|exact z8 hfr|apply And.intro) (by cbv;repeat' first|exact trivial|apply And.intro)) (.le (ps':=⟨[(4,mlv (l.map (rnP M)))],[(1000000,.box [zlv M])]⟩) ?_ ?_ rfl)) rfl (lR) rfl rfl rfl rfl;{cbv;exact⟨zS hT,trivial⟩};{cbv;exact okA}
def Oq (l:List Lem)(hl:l.length<2^38):Sound 146 [llv l] [] [] (oV 100 6 l.length) [] [(100,aV 6 (enc lc l))]:=by
 refine sF Tryz.f146 ?_;cbv;refine⟨λb hb=>?_⟩;cbv;refine zP (λh=>?_) (λh=>?_)
 ·(have hb':=hb h;have hl0:l=[]:=by have:=congrArg List.length hb';rw[zA] at this;exact j3 this);cbv;subst hl0;refine mC (ps':=⟨[(2,oV 100 6 0)],[(100,aV 6 ([]))]⟩) 100 (.trans (.le (ps':=⟨[(2,.nil)],[]⟩) ?_ trivial rfl) (.adoptT (ps:=⟨[(2,.nil)],[]⟩) 100 6 2 rfl rfl)) rfl rfl rfl ?_;{cbv;exact okA};{cbv;exact zZ rfl rfl}
 {cbv;refine wM tE rfl rfl rfl rfl rfl (wJ xD _) (z5 om (by simp only[iS,zA];exact om)) rfl ?_;cbv;refine mC (ps':=⟨[(2,oV 7 6 l.length)],[(7,aV 6 (enc lc l))]⟩) 7 (.le ?_ ?_ rfl) rfl rfl rfl ?_;{cbv;exact⟨zZ rfl (by simp[zA]),trivial⟩};{cbv;exact⟨zH rfl,trivial⟩};{cbv;exact lR}}
def rnL (M:List Int) (m:Lem):Lem:=⟨m.u,m.up,m.v,m.pf.map (rnP M)⟩
def Em (M:List Int)(l:List Lem)(hM:M.length<2^38)(hl:l.length<2^38)(hp:∀ m,m∈l->m.pf.length<2^38/\∀ y,y∈m.pf->Rsm y.row):Sound 71 [llv l,lnF] (lnO M) [] (llv (l.map (rnL M))) (lnO M) []:=by
 refine sF Tryz.f71 ?_;have c1:=Oq l hl;have c2:=λm (h:m∈l)=>NY M m.pf hM (hp m h).1 (hp m h).2;clear hp;cbv;refine kW (λn=>300) (Wk.sel _ [1,7] [1000000] rfl) c1 ?_;cbv;refine zW (σ:=Nat) (λi=>⟨[(1,lnF),(5,oV 300 6 l.length),(10,iV l.length),(11,iV i)],[(1000000,.box [zlv M]),(300,aV 6 (enc lc ((l.take i).map (rnL M)++l.drop i)))]⟩) (λi=>i<=l.length) (λi=>l.length-i) 0 (yU _) (.le okZ (by cbv;repeat' first|exact trivial|exact lR|exact zH (by simp)|apply And.intro) rfl) ?_;intro i hi;cbv;refine zE (λh=>?_) (λh=>?_)
 ·(have hlt:i<l.length:=by exact om);obtain⟨m,hm⟩:=zO hlt
  (have c3:=c2 m (zX hm);have hdr:=zU hm;obtain⟨pre,hpre⟩:∃ X,(l.take i).map (rnL M)=X:=⟨_,rfl⟩;obtain⟨post,hpost⟩:=ex (l.drop (i+1));have hpl:pre.length=i:=by rw[<-hpre,y8,kV];omega);have hlen:(pre++m::post).length=l.length:=by rw[bU,bK,<-hpost,Vx,hpl];omega
  (have hget:(pre++m::post)[i]?=some m:=by rw[ZH oM,hpl,Vr];rfl);have hset:∀ x,(pre++m::post).set i x=pre++x::post:=λx=>by rw[List.set_append_right _ _ oM,hpl,Vr];rfl
  (have he:(l.take (i+1)).map (rnL M)++l.drop (i+1)=pre++rnL M m::post:=by rw[dI,hm,hpost,gH,hpre,Ha];rfl);have hr:rnL M m=⟨m.u,m.up,m.v,m.pf.map (rnP M)⟩:=rfl
  (rw[hpre,hdr,hpost];generalize m.pf.map (rnP M)=pf' at *;clear c1 c2;cbv;refine⟨yZ om om,uM (l:=pre++m::post) i om oM y0 xD (λt ht=>?_)⟩;obtain rfl:m=t:=by rw[hget] at ht;exact vO ht);cbv
  (refine bS (λn=>n) (.refl _) rfl (by exact⟨lR,⟨rfl,lR,trivial⟩,trivial⟩) c3 okR rfl rfl rfl rfl rfl rfl rfl rfl ?_;cbv;refine⟨yZ om om,uM (l:=pre++m::post) i om oM y0 xD (λt ht=>?_)⟩;obtain rfl:m=t:=by rw[hget] at ht;exact vO ht);cbv
  (have hels:(enc lc (pre++m::post)).set (0+((i:Nat):Int).toNat) (xE (lc ⟨m.u,m.up,m.v,pf'⟩))=enc lc ((l.take (i+1)).map (rnL M)++l.drop (i+1)):=by rw[tS,show 0+((i:Nat):Int).toNat=i by omega,hset,he,hr]);exact⟨zC om om,i+1,(show i+1<=l.length by omega),(show l.length-(i+1)<l.length-i by omega),.le okZ (by cbv;repeat' first|exact trivial|exact lR|exact zH hels|apply And.intro) rfl⟩
 ·(have hi':i=l.length:=by exact om);have hT:(((enc lc ((l.take i).map (rnL M)++l.drop i)).drop 0).take l.length)=enc lc (l.map (rnL M)):=by rw[hi',wW,wD,kN,xM,yW (by rw[zA,y8];exact yD _)]
  (have hfr:0+l.length<=(enc lc ((l.take i).map (rnL M)++l.drop i)).length:=by rw[zA,bU,y8,kV,Vx];omega);cbv
  refine ZR (.trans (.frz 300 rfl rfl (by cbv;repeat' first|exact trivial|exact z8 hfr|apply And.intro) (by cbv;repeat' first|exact trivial|apply And.intro)) (.le (ps':=⟨[(4,llv (l.map (rnL M)))],[(1000000,.box [zlv M])]⟩) ?_ ?_ rfl)) rfl (lR) rfl rfl rfl rfl;{cbv;exact⟨zS hT,trivial⟩};{cbv;exact okA}
def Scp.closes (s:Scp) (em:Bool) (l:List Mult):Bool:=if em=true then s.refutes l else s.proves s.q.goal l
def N3 (s:Scp)(em:Bool)(l:List Mult)(hs:s.sz (2^20))(hl:Msz (2^23) l)(hn:l.length<=100):zD 65 [sv s,bV em,mlv l] (bV (s.closes em l)):=by
 refine sF Tryz.f65 ?_;have c1:=HJ s l hs hl hn;have c2:=Ud s s.q.goal l hs (hs.q.goal.mono (by decide)) hl hn;have e1:em=true->s.closes em l=s.refutes l:=λh=>by unfold Scp.closes;rw[if_pos h]
 have e2:em=false->s.closes em l=s.proves s.q.goal l:=λh=>by unfold Scp.closes;rw[if_neg (by rw[h];decide)]
 generalize s.closes em l=r at *;generalize s.refutes l=r1 at *;generalize s.proves s.q.goal l=r2 at *;clear hs;obtain⟨⟨⟨n,us,os⟩,⟨lo,hi',rows⟩,⟨ts,c⟩⟩,path,L⟩:=s;dsimp only [sv] at *;cbv;refine zP (λe=>?_) (λe=>?_);{have:=e1 e;subst this;cbv;refine cA c1 ?_;cbv;exact rA};{have:=e2 e;subst this;cbv;refine cA c2 ?_;cbv;exact rA}
structure Rsn where
 cl:List yQ
 lems:List Lem
 em:Bool
 pf:List Mult
abbrev rsv (r:Rsn):PV:=.agg [jD r.cl,llv r.lems,bV r.em,mlv r.pf]
def pG:Rsn:=⟨[],[],false,[]⟩
def Scp.dec (s:Scp) (k:Int):Dec:=(s.path[k.toNat]?).getD ⟨0,0,R0⟩
def Scp.lemA (s:Scp) (k:Int):Lem:=(s.lems[k.toNat]?).getD ⟨0,false,R0,[]⟩
def lgo (s:Scp):List Int->List yQ->Option (List yQ)
 |[],acc=>some acc
 |k::r,acc=>match jE (s.dec k) with
  |none=>none| some x=>lgo s r (acc++[(x.1,!x.2)])
def qL (s:Scp) (em:Bool) (l:List Mult):Rsn×Int :=
 if s.scopeB=false then (pG,1)
 else if s.closes em l=false then (pG,12)
 else match lgo s (wN (s.marks l).1) [] with
  |none=>(pG,10)
  |some ls=>match mkP ls with
   |none=>(pG,10)| some c=>(⟨c,((wN (s.marks l).2).map s.lemA).map (rnL (wN (s.marks l).2)),em,l.map (rnP (wN (s.marks l).2))⟩,0)
structure LrnOk (s:Scp) (l:List Mult):Prop where
 sz:s.sz (2^20)
 pf:∀ m,m∈s.lems->m.pf.length<=100/\∀ y,y∈m.pf->Rsm y.row
 lz:Msz (2^23) l
 n:l.length<=100
 r:∀ m,m∈l->Rsm m.row
 u:zD 14 [sv s,mlv l] (.tup [zlv (wN (s.marks l).1),zlv (wN (s.marks l).2)])
 d:∀ k,k∈wN (s.marks l).1->0<=k/\k<s.path.length
 mm:∀ k,k∈wN (s.marks l).2->0<=k/\k<s.lems.length
 dl:(wN (s.marks l).1).length<=12
 ml:(wN (s.marks l).2).length<=1000
 nr:∀ ls,lgo s (wN (s.marks l).1) []=some ls->o7 (dB ls).reverse
def Mg (s:Scp)(em:Bool)(l:List Mult)(h:LrnOk s l):zD 20 [sv s,bV em,mlv l] (.tup [rsv (qL s em l).1,iV ((qL s em l).2)]):=by
 refine sF Tryz.f20 ?_;have c1:=KS s h.sz (λm hm=>(h.pf m hm).1);have c2:=N3 s em l h.sz h.lz h.n;have c3:=h.u;have hR:qL s em l=if s.scopeB=false then ((pG,1):Rsn×Int)
  else if s.closes em l=false then (pG,12)
  else match lgo s (wN (s.marks l).1) [] with
   |none=>(pG,10)
   |some ls=>match mkP ls with
    |none=>(pG,10)| some c=>(⟨c,((wN (s.marks l).2).map s.lemA).map (rnL (wN (s.marks l).2)),em,l.map (rnP (wN (s.marks l).2))⟩,0):=rfl
 have hd:=h.d;have hm:=h.mm;have hdl:=h.dl;have hml:=h.ml;have hnr:=h.nr;have hdc:∀ k,k∈wN (s.marks l).1->s.path[k.toNat]?=some (s.dec k):=λk hk=>by grind [Scp.dec]
 have hlm:∀ k,k∈wN (s.marks l).2->s.lems[k.toNat]?=some (s.lemA k):=λk hk=>by grind [Scp.lemA]
 have c8:=NY (wN (s.marks l).2) l oM (xF h.n (by decide)) h.r;have c7:=Em (wN (s.marks l).2) ((wN (s.marks l).2).map s.lemA) oM (by grind) (λm' hm'=>by obtain⟨k,hk,rfl⟩:=xA.1 hm';obtain⟨g1,g2⟩:=h.pf _ (zX (hlm k hk));grind);have c4:=λk=>EQ (s.dec k);have c6:=λls (h1:lgo s (wN (s.marks l).1) []=some ls) (h2:ls.length<=12)=>Eq ls h2 (hnr ls h1);have hpl:=h.sz.path.len;have hll:=h.sz.lems.len;have hgo:∀ k r acc,lgo s (k::r) acc=match jE (s.dec k) with
  |none=>none| some x=>lgo s r (acc++[(x.1,!x.2)]):=λ_ _ _=>rfl
 have hgn:∀ acc,lgo s [] acc=some acc:=λ_=>rfl;obtain⟨RR,hRR⟩:=ex (qL s em l);rw[hRR] at hR ⊢;obtain⟨GO,hGO⟩:∃ GO:List Int->List yQ->Option (List yQ),∀ r acc,lgo s r acc=GO r acc:=⟨_,λ_ _=>rfl⟩;simp only[hGO] at hgo hgn c6 hR;clear hRR hGO hnr h;generalize s.scopeB=b1 at *;generalize s.closes em l=b2 at *;generalize wN (s.marks l).1=D at *;generalize wN (s.marks l).2=M at *;generalize (M.map s.lemA).map (rnL M)=L7 at *;generalize l.map (rnP M)=l8 at *;generalize Scp.dec s=dec at *;generalize Scp.lemA s=lemA at *;obtain⟨r1,e9⟩:=RR;obtain⟨⟨⟨n,us,os⟩,⟨lo,hi',rows⟩,⟨ts,c⟩⟩,path,L⟩:=s;dsimp only [sv] at *;cbv;refine cA c1 ?_;cbv;refine zP (λe=>?_) (λe=>?_)
 rotate_left
 {rw[if_pos e] at hR;cases hR;cbv;exact rA};rw[if_neg (by grind)] at hR;cbv;refine cA c2 ?_;cbv;refine zP (λe2=>?_) (λe2=>?_)
 rotate_left
 {rw[if_pos e2] at hR;cases hR;cbv;exact rA};rw[if_neg (by grind)] at hR;clear c1 c2;cbv;refine cA c3 ?_;cbv;refine zW (σ:=Nat×List yQ) (λt=>⟨[(1,bV em),(2,mlv l),(3,.ptr 3 0),(6,.ptr 6 0),(9,.ptr 9 0),(10,oV 59 2 t.2.length),(37,zlv D),(38,iV D.length),(39,iV t.1)],[(3,.box [iV n,alv us,alv os,rlv lo,rlv hi',alv rows,tsv ts,bV c.neg,nat c.num,nat c.den,dlv path,llv L]),(6,.box [.nil,.nil,.ff,.nil]),(9,.box [zlv M]),(59,aV 2 (enc ltc t.2))]⟩)
  (λt=>t.1<=D.length/\GO D []=GO (D.drop t.1) t.2/\t.2.length=t.1) (λt=>D.length-t.1) (0,[]) ⟨yU _,rfl,rfl⟩
  (.trans (.le (ps':=⟨[(1,bV em),(2,mlv l),(3,.ptr 3 0),(6,.ptr 6 0),(9,.ptr 9 0),(10,.nil),(37,zlv D),(38,iV D.length),(39,iV (((0:Nat):Int)))],[(3,.box [iV n,alv us,alv os,rlv lo,rlv hi',alv rows,tsv ts,bV c.neg,nat c.num,nat c.den,dlv path,llv L]),(6,.box [.nil,.nil,.ff,.nil]),(9,.box [zlv M])]⟩) (by cbv;repeat' first|exact trivial|exact lR|exact zB (by (try dsimp only [zY] at *);rw[zA])|apply And.intro) okZ rfl)
   (.trans (.adoptT (ps:=⟨[(1,bV em),(2,mlv l),(3,.ptr 3 0),(6,.ptr 6 0),(9,.ptr 9 0),(10,.nil),(37,zlv D),(38,iV D.length),(39,iV (((0:Nat):Int)))],[(3,.box [iV n,alv us,alv os,rlv lo,rlv hi',alv rows,tsv ts,bV c.neg,nat c.num,nat c.den,dlv path,llv L]),(6,.box [.nil,.nil,.ff,.nil]),(9,.box [zlv M])]⟩) 59 2 10 rfl rfl) (wkZ))) ?_
 intro t ht;obtain⟨i,acc⟩:=t;obtain⟨h1,h2,h3⟩:=ht;dsimp only at h1 h2 h3;cbv;refine zE (λh=>?_) (λh=>?_)
 ·(have hlt:i<D.length:=by exact om);obtain⟨k,hk⟩:=zO hlt
  have hkm:=zX hk;have hp:=hdc k hkm;obtain⟨k0,k1⟩:=hd k hkm;have c5:=c4 k;rw[zU hk,hgo] at h2;generalize dec k=d at *;clear c4 c6 c7 c8 hdc hd hlm hm;cbv;refine yB hk kY dC ?_;cbv;refine y6 hp (by exact om) uW qN ?_;cbv;refine cA c5 ?_;cbv;cases hx:jE d with
  |none =>
   rw[hx] at h2;dsimp only at h2;rw[h2] at hR;dsimp only at hR;cases hR;cbv;refine Yc rfl ?_;cbv;exact rA
  |some x =>
   (rw[hx] at h2;dsimp only at h2;have c9:=N7 x;have hen:enc ltc (acc++[(x.1,!x.2)])=enc ltc acc++zL [ltc (x.1,!x.2)]:=by simp[enc,zL]);have hal:(acc++[(x.1,!x.2)]).length=i+1:=by grind
   clear c5 hR;obtain⟨x1,x2⟩:=x;dsimp only at *;cbv;refine dY rfl ?_;cbv;refine cA c9 ?_;cbv;refine wU Hq rfl rfl rfl (by simp[zA]) rfl ⟨by simp[zL,xE]⟩ (z5 oM (by simp[zL,zA] at *;exact om)) rfl ?_;cbv;exact⟨zC om om,(i+1,acc++[(x1,!x2)]),⟨(show i+1<=D.length by omega),h2,hal⟩,(show D.length-(i+1)<D.length-i by omega),.le (by cbv;repeat' first|exact trivial|exact lR|exact zZ rfl (by simp[zL,zA])|exact zB om|apply And.intro) (by cbv;repeat' first|exact trivial|exact lR|exact zH (by rw[hen];rfl)|apply And.intro) rfl⟩
 have hiD:i=D.length:=by exact om
 rw[hiD,wD,hgn] at h2;rw[h2] at hR;dsimp only at hR;have c6':=c6 acc h2 oM;have hT:((enc ltc acc).drop 0).take acc.length=enc ltc acc:=by rw[xM,<-zA ltc acc,wW]
 have hfr:0+acc.length<=(enc ltc acc).length:=by grind [zA]
 clear c6 c4 h2 hgo hgn hdc hd;cbv;refine qF (.frz 59 rfl rfl (by cbv;repeat' first|exact trivial|exact z8 hfr|apply And.intro) (by cbv;repeat' first|exact trivial|apply And.intro)) rfl (by exact⟨zS hT,trivial⟩) c6' rfl ?_;cbv;cases hx:mkP acc with
 |none =>
  rw[hx] at hR;dsimp only at hR;cases hR;cbv;refine Yc rfl ?_;cbv;exact rA
 |some cl =>
  rw[hx] at hR;dsimp only at hR;cases hR;clear c6';cbv;refine dY rfl ?_;cbv;refine zW (σ:=Nat) (λi=>⟨[(2,mlv l),(3,.ptr 3 0),(6,.ptr 6 0),(17,.ptr 17 0),(18,.fn 69 [.ptr 9 0]),(73,zlv M),(74,iV M.length),(75,iV i)],[(3,.box [iV n,alv us,alv os,rlv lo,rlv hi',alv rows,tsv ts,bV c.neg,nat c.num,nat c.den,dlv path,llv L]),(6,.box [.nil,.nil,.ff,.nil]),(9,.box [zlv M]),(17,.box [jD cl,oV 87 6 i,bV em,.nil]),(87,aV 6 (enc lc ((M.take i).map lemA)))]⟩)
   (λi=>i<=M.length) (λi=>M.length-i) 0 (yU _)
   (.trans (.le (ps':=⟨[(2,mlv l),(3,.ptr 3 0),(6,.ptr 6 0),(17,.ptr 17 0),(18,.fn 69 [.ptr 9 0]),(73,zlv M),(74,iV M.length),(75,iV (((0:Nat):Int)))],[(3,.box [iV n,alv us,alv os,rlv lo,rlv hi',alv rows,tsv ts,bV c.neg,nat c.num,nat c.den,dlv path,llv L]),(6,.box [.nil,.nil,.ff,.nil]),(9,.box [zlv M]),(17,.box [jD cl,.nil,bV em,.nil])]⟩) (by cbv;repeat' first|exact trivial|exact lR|exact zB (by (try dsimp only [zY] at *);rw[zA])|apply And.intro) okZ rfl)
    (.trans (.adoptB (ps:=⟨[(2,mlv l),(3,.ptr 3 0),(6,.ptr 6 0),(17,.ptr 17 0),(18,.fn 69 [.ptr 9 0]),(73,zlv M),(74,iV M.length),(75,iV (((0:Nat):Int)))],[(3,.box [iV n,alv us,alv os,rlv lo,rlv hi',alv rows,tsv ts,bV c.neg,nat c.num,nat c.den,dlv path,llv L]),(6,.box [.nil,.nil,.ff,.nil]),(9,.box [zlv M]),(17,.box [jD cl,.nil,bV em,.nil])]⟩) (cs:=[jD cl,.nil,bV em,.nil]) 87 6 17 1 rfl rfl rfl) (wkZ))) ?_
  intro i hi;cbv;refine zE (λh=>?_) (λh=>?_)
  ·(have hlt:i<M.length:=by exact om);obtain⟨k,hk⟩:=zO hlt
   (have hkm:=zX hk;have hp:=hlm k hkm;obtain⟨k0,k1⟩:=hm k hkm;have hen:enc lc ((M.take (i+1)).map lemA)=enc lc ((M.take i).map lemA)++zL [lc (lemA k)]:=by rw[dI,hk];simp[enc,zL]);have hln:(enc lc ((M.take i).map lemA)).length=i:=by rw[zA,y8,kV];omega
   generalize lemA k=m at *;clear c7 c8 hlm hm;cbv;refine yB hk kY dC ?_;cbv;refine zM 8 (by cbv) ?_;cbv;refine y6 hp (by exact om) y0 xD ?_;cbv;refine wU tE rfl rfl rfl (by rw[hln]) rfl ⟨by simp[zL,xE]⟩ (z5 oM (by rw[hln];simp[zL];exact om)) rfl ?_;cbv;exact⟨zC om om,i+1,(show i+1<=M.length by omega),(show M.length-(i+1)<M.length-i by omega),.le okZ (by cbv;repeat' first|exact trivial|exact lR|exact zZ rfl (by rw[hln];simp[zL])|exact zH (by rw[hen];rfl)|apply And.intro) rfl⟩
  ·(have hiM:i=M.length:=by exact om);have hen:enc lc ((M.take i).map lemA)=enc lc (M.map lemA):=by grind
   (have hT2:((enc lc ((M.take i).map lemA)).drop 0).take i=enc lc (M.map lemA):=by rw[hen,xM,yW (by rw[zA,y8];omega)]);have hfr2:0+i<=(enc lc ((M.take i).map lemA)).length:=by grind [zA]
   clear hlm hm hen;cbv;refine bS (λ_=>9) (.frz 87 rfl rfl (by cbv;repeat' first|exact trivial|exact z8 hfr2|apply And.intro) (by cbv;repeat' first|exact trivial|exact z8 hfr2|apply And.intro)) rfl (by exact⟨zS hT2,⟨rfl,lR,trivial⟩,trivial⟩) c7 okR rfl rfl rfl rfl rfl rfl rfl rfl ?_;cbv;refine bS (λ_=>9) (.refl _) rfl (by exact⟨lR,⟨rfl,lR,trivial⟩,trivial⟩) c8 okR rfl rfl rfl rfl rfl rfl rfl rfl ?_;cbv;exact rA
def gR (l:yQ):Dec:=⟨if (!l.2)=true then 1 else 2,l.1,R0⟩
def ZP (q:Qry) (r:Rsn):Scp:=⟨q,r.cl.map gR,r.lems⟩
def El (q:Qry)(r:Rsn)(hc:r.cl.length<2^30):zD 32 [qv q,rsv r] (sv (ZP q r)):=by
 refine sF Tryz.f32 ?_;have c1:=λl:yQ=>N7 l;have c2:=λl:yQ=>EZ l;have hS:ZP q r=⟨q,r.cl.map gR,r.lems⟩:=rfl;obtain⟨S9,hS9⟩:=ex (ZP q r);rw[hS9] at hS ⊢;clear hS9;obtain⟨cl,lems,em,pf⟩:=r;obtain⟨⟨n,us,os⟩,⟨lo,hi',rows⟩,⟨ts,c⟩⟩:=q;dsimp only at *;subst hS;dsimp only [sv] at *;cbv;refine zW (σ:=Nat) (λi=>⟨[(4,.ptr 4 0),(5,.ptr 5 0),(13,jD cl),(14,iV cl.length),(15,iV i)],[(4,.box [iV 0,.nil,.nil,.nil,.nil,.nil,.nil,.ff,.nil,.nil,.nil,.nil]),(5,.box [iV n,alv us,alv os,rlv lo,rlv hi',alv rows,tsv ts,bV c.neg,nat c.num,nat c.den,oV 25 5 i,llv lems]),(25,aV 5 (enc dc ((cl.take i).map gR)))]⟩)
  (λi=>i<=cl.length) (λi=>cl.length-i) 0 (yU _)
  (.trans (.le (ps':=⟨[(4,.ptr 4 0),(5,.ptr 5 0),(13,jD cl),(14,iV cl.length),(15,iV (((0:Nat):Int)))],[(4,.box [iV 0,.nil,.nil,.nil,.nil,.nil,.nil,.ff,.nil,.nil,.nil,.nil]),(5,.box [iV n,alv us,alv os,rlv lo,rlv hi',alv rows,tsv ts,bV c.neg,nat c.num,nat c.den,.nil,llv lems])]⟩) (by cbv;repeat' first|exact trivial|exact lR|exact zB (by (try dsimp only [zY] at *);rw[zA])|apply And.intro) okZ rfl)
   (.trans (.adoptB (ps:=⟨[(4,.ptr 4 0),(5,.ptr 5 0),(13,jD cl),(14,iV cl.length),(15,iV (((0:Nat):Int)))],[(4,.box [iV 0,.nil,.nil,.nil,.nil,.nil,.nil,.ff,.nil,.nil,.nil,.nil]),(5,.box [iV n,alv us,alv os,rlv lo,rlv hi',alv rows,tsv ts,bV c.neg,nat c.num,nat c.den,.nil,llv lems])]⟩) (cs:=[iV n,alv us,alv os,rlv lo,rlv hi',alv rows,tsv ts,bV c.neg,nat c.num,nat c.den,.nil,llv lems]) 25 5 5 10 rfl rfl rfl) (wkZ))) ?_
 intro i hi;cbv;refine zE (λh=>?_) (λh=>?_)
 ·(have hlt:i<cl.length:=by exact om);obtain⟨x,hx⟩:=zO hlt
  (have hen:enc dc ((cl.take (i+1)).map gR)=enc dc ((cl.take i).map gR)++zL [dc (gR x)]:=by rw[dI,hx];simp[enc,zL]);have hln:(enc dc ((cl.take i).map gR)).length=i:=by rw[zA,y8,kV];omega
  have d1:=c1 x;have d2:zD 91 [ltv (x.1,!x.2)] (dv (gR x)):=c2 (x.1,!x.2);generalize gR x=d at *;clear c1 c2;cbv;refine yB hx xX wQ ?_;cbv;refine zM 6 (by cbv) ?_;cbv;refine dA d1 ?_;cbv;refine dA d2 ?_;cbv;refine wU rU rfl rfl rfl (by rw[hln]) rfl ⟨by simp[zL,xE]⟩ (z5 oM (by rw[hln];simp[zL];exact om)) rfl ?_;cbv;exact⟨zC om om,i+1,(show i+1<=cl.length by omega),(show cl.length-(i+1)<cl.length-i by omega),.le okZ (by cbv;repeat' first|exact trivial|exact lR|exact zZ rfl (by rw[hln];simp[zL])|exact zH (by rw[hen];rfl)|apply And.intro) rfl⟩
 ·(have hi2:i=cl.length:=by exact om);have hT:((enc dc ((cl.take i).map gR)).drop 0).take i=enc dc (cl.map gR):=by rw[hi2,wW,xM,yW (by rw[zA,y8];omega)]
  (have hfr:0+i<=(enc dc ((cl.take i).map gR)).length:=by rw[zA,y8,kV];omega);cbv
  refine cZ _ (.frz 25 rfl rfl (by cbv;repeat' first|exact trivial|exact z8 hfr|apply And.intro) (by cbv;repeat' first|exact trivial|exact z8 hfr|apply And.intro)) rfl ?_;cbv;exact⟨lR,lR,lR,lR,lR,lR,lR,lR,lR,lR,zS hT,lR,trivial⟩
def r9 (q:Qry) (c:List yQ):Bool:=match c[c.length-1]? with
 |some x=>decide (x.1<q.g.us.length)| none=>true
def aR (q:Qry) (r:Rsn):Bool:=q.valid&&(clG none r.cl&&(r9 q r.cl&&((ZP q r).scopeB&&(ZP q r).closes r.em r.pf)))
structure RsnOk (q:Qry) (r:Rsn):Prop where
 sz:q.sz (2^20)
 cl:r.cl.length<=1000
 lz:Lsz (2^20) r.lems
 pf:∀ m,m∈r.lems->m.pf.length<=100
 pz:Msz (2^23) r.pf
 pn:r.pf.length<=100
theorem RsnOk.scp {q:Qry}{r:Rsn}(h:RsnOk q r):(ZP q r).sz (2^20):=⟨h.sz,⟨by show (r.cl.map gR).length<_;rw[y8];have:=h.cl;omega,λd hd=>by obtain⟨x,_,rfl⟩:=xA.1 hd;exact⟨yU _,yU _⟩⟩,h.lz⟩
def NT (q:Qry)(r:Rsn)(h:RsnOk q r):zD 24 [qv q,rsv r] (bV (aR q r)):=by
 refine sF Tryz.f24 ?_;have hcl:=h.cl;have hul:=h.sz.g.us.len;have c1:=mW q (h.sz.mono (by decide));have c2:=N6 r.cl oM;have c3:=El q r oM;have c4:=KS (ZP q r) h.scp h.pf;have c5:=N3 (ZP q r) r.em r.pf h.scp h.pz h.pn;have hV:aR q r=(q.valid&&(clG none r.cl&&(r9 q r.cl&&((ZP q r).scopeB&&(ZP q r).closes r.em r.pf)))):=rfl;have hla:∀ x,r.cl[r.cl.length-1]?=some x->r9 q r.cl=decide (x.1<q.g.us.length):=λx hx=>by grind [r9]
 have hln:r.cl=[]->r9 q r.cl=true:=λhx=>by grind [r9]
 generalize aR q r=v at *;generalize ZP q r=S at *;generalize S.scopeB=b4 at *;generalize S.closes r.em r.pf=b5 at *;generalize clG none r.cl=b2 at *;generalize q.valid=b1 at *;generalize r9 q r.cl=b3 at *;clear h;obtain⟨cl,lems,em,pf⟩:=r;obtain⟨⟨n,us,os⟩,⟨lo,hi',rows⟩,⟨ts,c⟩⟩:=q;dsimp only [sv] at *;cbv;refine cA c1 ?_;cbv;refine yA (λe1=>?_) (λe1=>?_)
 rotate_left
 ·cbv
  (refine rC ?_;cbv)
  exact zK (by grind)
 cbv;refine cA c2 ?_;cbv;refine zP (λe2=>?_) (λe2=>?_)
 rotate_left
 ·cbv
  (refine rC ?_;cbv)
  exact zK (by grind)
 cbv;refine zM 14 (by cbv) ?_;cbv;refine zQ (λe3=>?_) (λe3=>?_)
 ·(have hpos:0<cl.length:=by rw[zA] at e3;exact om);obtain⟨x,hx⟩:=zO (l:=cl) (i:=cl.length-1) oM
  have hb:=hla x hx;clear hla hln;cbv;refine⟨zC (by rw[zA];exact om) (by rw[zA];exact om),y6 hx (by rw[zA];exact om) xX wQ ?_⟩;cbv;refine zE (λe5=>?_) (λe5=>?_)
  ·cbv
   (refine rC ?_;cbv)
   exact zK (by rw[hV,e1,e2,hb,decide_eq_false (by rw[zA] at e5;exact om)];rfl)
  ·(have hb3:b3=true:=by rw[hb];exact decide_eq_true (by rw[zA] at e5;exact om));cbv
   refine cA c3 ?_;cbv;refine cA c4 ?_;cbv;refine yA (λe4=>?_) (λe4=>?_)
   ·cbv;refine cA c5 ?_;cbv
    (refine rC ?_;cbv)
    exact z4 (by grind)
   ·cbv
    (refine rC ?_;cbv)
    exact zK (by grind)
 ·have hb3:b3=true:=hln (by cases cl with
   |nil=>rfl| cons a r=>exact absurd (by rw[zA,bK];exact om) e3)
  clear hla hln;cbv;refine cA c3 ?_;cbv;refine cA c4 ?_;cbv;refine yA (λe4=>?_) (λe4=>?_)
  ·cbv;refine cA c5 ?_;cbv
   (refine rC ?_;cbv)
   exact z4 (by grind)
  ·cbv
   (refine rC ?_;cbv)
   exact zK (by grind)
end Go.Proofs.YtaeaffgjdcigoaaGreat
