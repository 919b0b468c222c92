/- A part of the proof: KcW, KsA, KsB, KsC, KsD, KsE, KsF. -/
import Derived.Test.YtaeaffgjdcigoaaGreatW43
import Derived.Test.YtaeaffgjdcigoaaGreatW35
import Derived.Test.YtaeaffgjdcigoaaGreatW25
import Derived.Test.YtaeaffgjdcigoaaGreatW45
import Derived.Test.YtaeaffgjdcigoaaGreatW16
import Derived.Test.YtaeaffgjdcigoaaGreatW34
import Derived.Test.YtaeaffgjdcigoaaGreatW31
set_option linter.all false
namespace Go.Proofs.YtaeaffgjdcigoaaGreat
open Go
set_option maxRecDepth 100000
set_option maxHeartbeats 8000000
def L4 (raw:List UInt8)(hr:raw.length<2^38):zC 43 [u8v raw] (sv (dvd raw)):=by
 refine sF Tryz.f43 ?_;have c1:=L3 raw hr;have c2:=λk=>Sr (pH raw) (HI raw).toRw (by decide) (by decide) k;have he:dvd raw=if y9 raw%5<3 then (ext raw).run (y9 raw%5) else ext raw:=rfl
 have hle:=Zs raw;have hst:=λi w h=>lN (raw:=raw) (i:=i) (w:=w) h;obtain⟨E,hE⟩:=ex (dvd raw);rw[hE] at he ⊢;obtain⟨RN,hRN⟩:∃ RN:Nat->Scp,∀ k,RN k=(ext raw).run k:=⟨_,λ_=>rfl⟩;simp only[<-hRN] at c2 he;clear hRN hE;generalize ext raw=X at *;have hfull:raw.take raw.length=raw:=v9;obtain⟨S,hS⟩:∃ S:Nat->Nat,∀ i,S i=y9 (raw.take i):=⟨_,λ_=>rfl⟩;have hS0:S 0=0:=by rw[hS];rfl
 have hSl:y9 raw=S raw.length:=by rw[hS,hfull]
 rw[hSl] at he;simp only[<-hS] at hle hst;clear hS hSl hfull;dsimp only [sv] at *;cbv;refine cA c1 ?_;cbv;refine z7 (σ:=Nat) (λi=>⟨[(0,u8v raw),(2,.ptr 2 0),(3,.ptr 3 0),(4,iV ((S i:Int))),(5,iV i)],
   [(2,.box [iV 0,.nil,.nil,.nil,.nil,.nil,.nil,.ff,.nil,.nil,.nil,.nil]),(3,.box (sc X))]⟩)
  (λi=>i<=raw.length) (λi=>raw.length-i) 0 (xA _) (.le (by cbv;repeat' first|exact trivial|exact lR|exact zB (by rw[hS0];rfl)|exact zB om|apply And.intro) okZ rfl) ?_
 intro i hi;cbv;refine zF (λh=>?_) (λh=>?_)
 ·(have hlt:i<raw.length:=by rw[zA] at h;exact om);obtain⟨w,hw⟩:=zS hlt
  have e:=hst i w hw;have e2:=hle i;have e3:=hle (i+1);have hw8:=w.toNat_lt;have e4:=CS w;clear hst hle c1 c2 he;cbv;refine yL hw oA eZ ?_;cbv;exact⟨zD (by rw[e4];exact om) (by rw[e4];exact om),zD om om,i+1,(show i+1<=_ by omega),(show raw.length-(i+1)<raw.length-i by omega),.le (by cbv;repeat' first|exact trivial|exact lR|exact zB (by rw[e4,e];exact om)|exact zB om|apply And.intro) okZ rfl⟩
 ·(have hi':i=raw.length:=by rw[zA] at h;exact om);subst hi'
  have hm:irem ((S raw.length:Nat):Int) 5=((S raw.length%5:Nat):Int):=wH (b:=5);clear hst hle;generalize S raw.length=M at *;have c2':=c2 (M%5);clear c2;cbv;refine⟨wG om,?_⟩;cbv;refine zF (λg=>?_) (λg=>?_);{rw[if_pos (by exact om)] at he;subst he;cbv;refine⟨wG om,?_⟩;cbv;refine yJ rfl (by exact⟨zB hm,okA,lR,trivial⟩) c2' rfl ?_;cbv;exact rA};{rw[if_neg (by exact om)] at he;subst he;cbv;exact rA}
def DG:ty 63=.sli 2 16 [iV 0,.ff]:=by cbv
def Lv (a b:xH):zC 143 [.agg (ltc a),.agg (ltc b)] (iV (cI a.1 b.1)):=by refine sF Tryz.f143 ?_;have c:=Ko a.1 b.1;generalize cI a.1 b.1=r at *;cbv;refine cA c ?_;cbv;exact rA
abbrev lao (n:Nat) (l:List xH):List (Nat×Obj'):=[(n,xF 2 (enc ltc l))]
def Ek (l:List xH)(hl:l.length<2^38):Sound 141 [bX l] [] [] (yX 100 2 l.length) [] (lao 100 l):=by
 refine sF Tryz.f141 ?_;cbv;refine⟨λb hb=>?_⟩;cbv;refine zO (λh=>?_) (λh=>?_)
 ·(have hb':=hb h;have hl0:l=[]:=by have:=congrArg List.length hb';grind [zA]);cbv;subst hl0;refine tY (ps':=⟨[(2,yX 100 2 0)],[(100,xF 2 ([]))]⟩) 100 (.trans (.le (ps':=⟨[(2,.nil)],[]⟩) ?_ trivial rfl) (.adoptT (ps:=⟨[(2,.nil)],[]⟩) 100 2 2 rfl rfl)) rfl rfl rfl ?_;{cbv;exact okA};{cbv;exact zT rfl rfl}
 {cbv;refine wM DG rfl rfl rfl rfl rfl (xE vG _) (z8 om (by simp only[dO,zA];exact om)) rfl ?_;cbv;refine tY (ps':=⟨[(2,yX 7 2 l.length)],[(7,xF 2 (enc ltc l))]⟩) 7 (.le ?_ ?_ rfl) rfl rfl rfl ?_;{cbv;exact⟨zT rfl (by simp[zA]),trivial⟩};{cbv;exact⟨zG rfl,trivial⟩};{cbv;exact lR}}
def bH (x:xH):List xH->List xH
 |[]=>[x]| y::r=>if cI x.1 y.1<0 then y::bH x r else x::y::r
def bG (l:List xH):List xH:=l.foldl (λa x=>bH x a) []
def KZ (x:xH):∀ l,(bH x l).length=l.length+1
 |[]=>rfl| y::r=>by unfold bH;split <;> simp[KZ x r]
def FZ (l:List xH)(x:xH):bG (l++[x])=bH x (bG l):=by grind [bG]
theorem Wm:∀ l,(bG l).length=l.length:=by
 have:∀ (l a:List xH),(l.foldl (λa x=>bH x a) a).length=a.length+l.length:=by
  intro l;induction l with
  |nil=>grind| cons x r ih=>intro a;rw[Ds,ih,KZ,rK];omega
 grind [bG]
def Ee (l : List xH) (hl : l.length ≤ 12) : Sound 234 [yX 1000000 2 l.length, iV 0, iV l.length, .fn 143 []] (lao 1000000 l) [] (.tup []) (lao 1000000 (bG l).reverse) [] := by
  refine sF Tryz.f234 ?_
  obtain ⟨P, hP⟩ : ∃ P : Nat → List xH, ∀ i, P i = bG (l.take i) := ⟨_, fun _ => rfl⟩
  have hPl : ∀ i, i ≤ l.length → (P i).length = i := fun i hi => by grind [Wm]
  have hPs : ∀ i x, l[i]? = some x → P (i + 1) = bH x (P i) := fun i x hx => by
    rw [hP, hP, tC, hx]
    exact FZ _ _
  have hP1 : l ≠ [] → (P 1).reverse ++ l.drop 1 = l := fun h => by
    cases l with
    | nil => grind
    | cons x r => rw [hP]; rfl
  have hPe : bG l = P l.length := by grind
  have hP0 : l = [] → P l.length = [] := fun h => by grind
  rw [hPe]
  have hins : ∀ x y r, bH x (y :: r) = if cI x.1 y.1 < 0 then y :: bH x r else x :: y :: r := fun _ _ _ => rfl
  have hins0 : ∀ x, bH x [] = [x] := fun _ => rfl
  obtain ⟨I, hI⟩ := ex bH
  rw [hI] at hPs hins hins0
  clear hP hI hPe
  have hcmp := Lv
  generalize hN : P l.length = R at *
  by_cases hle : l = []
  · have hR : R = [] := hP0 hle
    subst hle hR
    clear hPl hPs hP1 hP0 hN hins hins0
    cbv
    refine ⟨zD (by decide) (by decide), ?_⟩
    refine z7 (σ := Unit) (fun _ => ⟨[(2, iV 0), (8, iV 1)], [(1000000, xF 2 ([]))]⟩) (fun _ => True) (fun _ => 0) () trivial (.le ?_ ?_ rfl) ?_
    · cbv; exact ⟨zB (by rfl), zB (by rfl), trivial⟩
    · cbv; exact ⟨zG rfl, trivial⟩
    intro _ _
    cbv
    refine yE (by decide) ?_
    cbv
    exact oK rfl trivial rfl rfl rfl rfl
  have hl1 : 1 ≤ l.length := by grind
  have hP1' := hP1 hle
  clear hP1 hP0
  cbv
  refine ⟨zD (by decide) (by decide), ?_⟩
  refine z7 (σ := Nat) (fun i => ⟨[(0, yX 1000000 2 l.length), (1, iV 0), (2, iV l.length), (3, .fn 143 []), (8, iV i)], [(1000000, xF 2 (enc ltc ((P i).reverse ++ l.drop i)))]⟩)
    (fun i => 1 ≤ i ∧ i ≤ l.length) (fun i => l.length - i) 1 ⟨om, hl1⟩ (.le ?_ ?_ rfl) ?_
  · cbv
    exact ⟨lR, lR, lR, zB (by rfl), trivial⟩
  · cbv
    exact ⟨zG (by rw [hP1']), trivial⟩
  clear hP1'
  intro i hi
  obtain ⟨hi1, hi2⟩ := hi
  cbv
  refine zF (fun h5 => ?_) (fun h5 => ?_)
  · have hlt : i < l.length := by exact om
    obtain ⟨x, hx⟩ := zS hlt
    have hdr := zY hx
    have hPi := hPs i x hx
    have hPil := hPl i hi2
    have hPil1 := hPl (i + 1) hlt
    generalize hrest : l.drop (i + 1) = rest at *
    have hrl : rest.length = l.length - (i + 1) := by grind
    generalize hp0 : P i = p0 at *
    generalize hp1 : P (i + 1) = p1 at *
    clear hPs hPl
    cbv
    refine z7 (σ := List xH × List xH) (fun s => ⟨[(0, yX 1000000 2 l.length), (1, iV 0), (2, iV l.length), (3, .fn 143 []), (8, iV i), (9, iV s.1.length)], [(1000000, xF 2 (enc ltc (s.1.reverse ++ x :: (s.2.reverse ++ rest))))]⟩)
      (fun s => s.1.length + s.2.length = i ∧ p1 = s.2 ++ I x s.1) (fun s => s.1.length) (p0, []) ⟨by omega, hPi⟩ (.le ?_ ?_ rfl) ?_
    · cbv
      exact ⟨lR, lR, lR, lR, zB (by exact om), trivial⟩
    · cbv
      exact ⟨zG (by grind), trivial⟩
    intro s hs
    obtain ⟨hL, hT⟩ := hs
    generalize s.1 = pr at *
    generalize s.2 = qr at *
    cases pr with
    | nil =>
      have hT' : p1 = qr ++ [x] := by grind
      cbv
      refine zM 17 (by cbv) ?_
      cbv
      refine yC (by simp) ?_
      cbv
      refine ⟨zD om om, i + 1, ⟨om, om⟩, om, .le ?_ ?_ rfl⟩
      · cbv
        exact ⟨lR, lR, lR, zB om, trivial⟩
      · cbv
        exact ⟨zG (by grind), trivial⟩
    | cons y pr =>
      rw [hins] at hT
      have hc := hcmp x y
      have hlen : (pr.reverse ++ y :: x :: (qr.reverse ++ rest)).length = l.length := by grind
      have earr : (y :: pr).reverse ++ x :: (qr.reverse ++ rest) = pr.reverse ++ y :: x :: (qr.reverse ++ rest) := by simp
      have hgj : (pr.reverse ++ y :: x :: (qr.reverse ++ rest))[pr.length + 1]? = some x := by
        rw [iH (by simp)]
        simp_all
      have hgj1 : (pr.reverse ++ y :: x :: (qr.reverse ++ rest))[pr.length]? = some y := by
        rw [iH (by simp)]
        simp
      have hset : ((pr.reverse ++ y :: x :: (qr.reverse ++ rest)).set (pr.length + 1) y).set pr.length x = pr.reverse ++ x :: ((qr ++ [y]).reverse ++ rest) := by
        have := Sh pr.reverse (qr.reverse ++ rest) x y
        grind
      rw [rK] at hL
      simp only [earr, rK]
      generalize hA : pr.reverse ++ y :: x :: (qr.reverse ++ rest) = arr at *
      generalize cI x.1 y.1 = cr at *
      cbv
      refine zM 17 (by cbv) ?_
      cbv
      refine wP (by exact om) ?_
      cbv
      refine ⟨xI om om, ?_⟩
      cbv
      refine kQ (l := arr) (pr.length + 1) om oM vH vG (fun t ht => ?_)
      obtain rfl : x = t := by grind
      cbv
      refine ⟨zD om om, xI om om, ?_⟩
      cbv
      refine kQ (l := arr) pr.length om oM vH vG (fun t' ht' => ?_)
      obtain rfl : y = t' := by grind
      cbv
      refine dA hc ?_
      cbv
      refine zF (fun e1 => ?_) (fun e1 => ?_)
      · rw [if_pos e1] at hT
        cbv
        have hix0 : ∀ k : Nat, k = pr.length + 1 → ((enc ltc arr).set k (xT (ltc y))) = enc ltc (arr.set (pr.length + 1) y) := fun k hk => by rw [hk, lI]
        have hix1 : ∀ k j : Nat, k = pr.length + 1 → j = pr.length → ((enc ltc arr).set k (xT (ltc y))).set j (xT (ltc x)) = enc ltc ((arr.set (pr.length + 1) y).set pr.length x) := fun k j hk hj => by grind [lI]
        refine aX (σ := Unit) (fun _ => ⟨[(0, yX 1000000 2 l.length), (1, iV 0), (2, iV l.length), (3, .fn 143 []), (8, iV i), (9, iV (((pr.length + 1 : Nat) : Int)))], [(1000000, xF 2 (enc ltc ((arr.set (pr.length + 1) y).set pr.length x)))]⟩) (fun _ => True) (Wk.sel _ [0, 1, 2, 3, 8, 9] [1000000] rfl) (by cbv) ?_ ?_
        · cbv
          repeat' first
            | exact trivial
            | (refine ⟨(), trivial, .le (by cbv; repeat' first | exact trivial | exact lR | apply And.intro) ?_ rfl⟩
               cbv; exact ⟨zG (show ((enc ltc arr).set (0 + ((pr.length + 1 : Nat) : Int).toNat) (xT (ltc y))).set (0 + (((pr.length + 1 : Nat) : Int) - 1).toNat) (xT (ltc x)) = _ from hix1 _ _ oM oM), trivial⟩)
            | (refine ⟨zD om om, ?_⟩; cbv)
            | (refine ⟨xI om om, ?_⟩; cbv)
            | (refine kQ (l := arr) pr.length ?_ oM vH vG (fun t' ht' => ?_)
               · exact om
               obtain rfl := kF (hgj1.symm.trans ht')
               cbv)
            | (refine kQ (l := arr) (pr.length + 1) ?_ oM vH vG (fun t' ht' => ?_)
               · exact om
               obtain rfl := kF (hgj.symm.trans ht')
               cbv)
            | (refine Rl (p := ltc) (arr.set (pr.length + 1) y) (hix0 _ ?_) pr.length ?_ (by rw [List.length_set]; omega) vH vG (fun t1 ht1 => ?_)
               · exact om
               · exact om
               cbv)
            | apply And.intro
        intro _ _
        cbv
        refine ⟨zD om om, (pr, qr ++ [y]), ⟨by grind, by rw [hT]; simp⟩, by simp, .le ?_ ?_ rfl⟩
        · cbv
          exact ⟨lR, lR, lR, lR, zB om, trivial⟩
        · cbv
          exact ⟨zG (by rw [hset]), trivial⟩
      · rw [if_neg e1] at hT
        cbv
        refine ⟨zD om om, i + 1, ⟨om, om⟩, om, .le ?_ ?_ rfl⟩
        · cbv
          exact ⟨lR, lR, lR, zB om, trivial⟩
        · cbv
          exact ⟨zG (by rw [hp1, hrest, hT, ← hA]; simp), trivial⟩
  · have hi' : i = l.length := by exact om
    subst hi'
    cbv
    refine UX (.le (ps' := ⟨[], [(1000000, xF 2 (enc ltc R.reverse))]⟩) ?_ ?_ rfl) rfl trivial rfl rfl rfl rfl
    · trivial
    · cbv
      exact ⟨zG (by grind), trivial⟩
def Mc:Pg.funcs[222]?=some Tryz.f222:=by rw[uZ];rfl
def Nf (x:Nat)(hx:x<=255):zC 222 [.int .u64 (λ_=>(x:Int))] (iV ((Lib.bitLen x:Int))):=by refine Yk Mc rfl rfl λw=>?_;have:=NY (x:Int) w oM oM;rw[Zv] at this;rw[uZ];exact this
def Lw (x:Nat)(hx:x<=255):zC 179 [.int .u64 (λ_=>(x:Int))] (iV ((Lib.bitLen x:Int))):=by refine sF Tryz.f179 ?_;have c:=Nf x hx;generalize Lib.bitLen x=r at *;cbv;refine cA c ?_;cbv;exact rA
def Lt (l:List xH)(hl:l.length<=12)(lim:Int):Sound 190 [yX 1000000 2 l.length,iV 0,iV l.length,iV lim,.fn 143 []] (lao 1000000 l) [] (.tup []) (lao 1000000 (bG l).reverse) []:=by refine sF Tryz.f190 ?_;have ci:=Ee l hl;generalize (bG l).reverse=R at *;cbv;refine z7 (σ:=Unit) (λ_=>⟨[(0,yX 1000000 2 l.length),(1,iV 0),(2,iV l.length),(3,iV lim),(4,.fn 143 []),(10,.tt),(11,.tt)],lao 1000000 l⟩) (λ_=>True) (λ_=>0) () trivial (.le (by cbv;repeat' first|exact trivial|exact lR|apply And.intro) (by cbv;repeat' first|exact trivial|exact zG rfl|apply And.intro) rfl) ?_;intro _ _;cbv;refine⟨zD om om,?_⟩;cbv;refine vC (by exact om) ?_;cbv;refine kB (λn=>n) (Wk.sel _ [26,27,28,29] [1000000] rfl) rfl (by exact⟨lR,lR,lR,⟨rfl,trivial⟩,trivial⟩) ci ?_;cbv;exact oK rfl trivial rfl rfl rfl rfl
def Lq (l:List xH)(hl:l.length<=12):Sound 142 [yX 1000000 2 l.length,.fn 143 []] (lao 1000000 l) [] (.tup []) (lao 1000000 (bG l).reverse) []:=by
 refine sF Tryz.f142 ?_;have cl:=Lw l.length oM;have ci:=Lt l hl (Lib.bitLen l.length);generalize (bG l).reverse=R at *;generalize Lib.bitLen l.length=r at *;have hn:nx .u64 (l.length:Int)=(l.length:Int):=by unfold nx;simp[IntKind.wrap,IntKind.signed,IntKind.bits];omega
 cbv;refine yJ rfl (by exact⟨zB hn,trivial⟩) cl rfl ?_;cbv;refine kB (λn=>n) (Wk.sel _ [7,8,11,12] [1000000] rfl) rfl (by exact⟨lR,lR,lR,lR,⟨rfl,trivial⟩,trivial⟩) ci ?_;cbv;exact oK rfl trivial rfl rfl rfl rfl
def XW:List xH->Prop
 |a::b::r=>a≠b/\XW (b::r)| _=>True
def Kz:∀ {l:List xH},XW l->∀ (i:Nat) (a b:xH),l[i]?=some a->l[i+1]?=some b->a≠b
 |[],_,_,_,_,h,_=>by simp at h| [x],_,i,a,b,_,h=>by simp at h| x::y::r,h,0,a,b,h1,h2=>by simp only[Zx,Zw,mF] at h1 h2;rw[<-h1,<-h2];exact h.1| x::y::r,h,i+1,a,b,h1,h2=>Kz h.2 i a b (by simpa using h1) (by simpa using h2)
def Ei (l:List xH)(hl:l.length<2^38)(hn:XW l):Sound 145 [yX 1000000 2 l.length] (lao 1000000 l) [] (yX 1000000 2 l.length) (lao 1000000 l) []:=by
 refine sF Tryz.f145 ?_;have hne:=Kz hn;clear hn;cbv;refine zF (λh=>?_) (λh=>?_);{cbv;exact oK rfl (lR) rfl rfl rfl rfl};cbv;refine z7 (σ:=Nat) (λi=>⟨[(0,yX 1000000 2 l.length),(3,iV (((i+1:Nat):Int)))],lao 1000000 l⟩) (λi=>i+1<=l.length) (λi=>l.length-i) 0 (by show 0+1<=l.length;exact om) (.le okZ (by cbv;repeat' first|exact trivial|exact zG rfl|apply And.intro) rfl) ?_;intro i hi;cbv;refine zF (λh5=>?_) (λh5=>?_)
 ·(have hlt:i+1<l.length:=by exact om);obtain⟨b,hb⟩:=zS hlt
  (obtain⟨a,ha⟩:=zS (l:=l) (i:=i) oM;have hab:=hne i a b ha hb;clear hne;cbv;refine zM 9 (by cbv) ?_;cbv;refine⟨xI om om,kQ (l:=l) (i+1) om oM vH vG (λt ht=>?_)⟩;obtain rfl:b=t:=by rw[hb] at ht;exact kF ht);cbv
  (refine⟨zD om om,xI om om,kQ (l:=l) i om oM vH vG (λt ht=>?_)⟩;obtain rfl:a=t:=by rw[ha] at ht;exact kF ht);cbv
  refine G8 ?_;cbv;refine yE (λe=>hab e.symm) ?_;cbv;exact⟨zD om om,i+1,(show i+1+1<=l.length by omega),(show l.length-(i+1)<l.length-i by omega),.le (by cbv;repeat' first|exact trivial|exact lR|exact zB om|apply And.intro) (by cbv;repeat' first|exact trivial|exact zG rfl|apply And.intro) rfl⟩
 {cbv;exact oK rfl (lR) rfl rfl rfl rfl}
def mkP (l:List xH):Option (List xH):=if clG none (bG l).reverse=true then some (bG l).reverse else none
def Lu (l:List xH)(hl:l.length<=12)(hn:XW (bG l).reverse):zC 68 [bX l] (.tup [bX ((mkP l).getD []),zL ((mkP l).isSome)]):=by
 refine sF Tryz.f68 ?_;have hm:mkP l=if clG none (bG l).reverse=true then some (bG l).reverse else none:=rfl
 have c1:=Ek l oM;have c2:=Lq l hl;have hrl:(bG l).reverse.length=l.length:=by rw[Ax,Wm]
 generalize (bG l).reverse=R at *;have c3:=Ei R oM hn;have c4:=Ng R oM;rw[hrl] at c3;have hT:((enc ltc R).drop 0).take l.length=enc ltc R:=by rw[wZ,<-hrl,<-zA ltc R,v9]
 have hfr:0+l.length<=(enc ltc R).length:=by rw[zA];omega
 generalize mkP l=o at *;generalize clG none R=b at *;clear hn;cbv;refine kW (λ_=>300) (Wk.sel _ [5] [] rfl) c1 ?_;cbv;refine kB (λ_=>300) (Wk.sel _ [4,7] [300] rfl) rfl (by exact⟨lR,⟨rfl,trivial⟩,trivial⟩) c2 ?_;cbv;refine kW (λ_=>300) (Wk.sel _ [4,9] [300] rfl) c3 ?_;cbv;refine qR (.frz 300 rfl rfl (by cbv;repeat' first|exact trivial|exact zZ hfr|apply And.intro) (by cbv;repeat' first|exact trivial|apply And.intro)) rfl (by exact⟨zR hT,trivial⟩) c4 rfl ?_;cbv;refine zO (λe=>?_) (λe=>?_)
 ·rw[if_pos e] at hm;subst hm;cbv
  (refine rC ?_;cbv)
  exact⟨zR hT,yV rfl,trivial⟩
 {rw[if_neg (by rw[e];exact QX)] at hm;subst hm;cbv;exact rA}
def ixI (l:List Int) (x:Int):Int:=v6 (λy=>decide (x=y)) l
def Ef (l:List Int)(x:Int)(hl:l.length<2^38):zC 70 [zlv l,iV x] (iV (ixI l x)):=by
 refine sF Tryz.f70 ?_;obtain⟨r,hr⟩:=ex (ixI l x);have h0:r=Zf (λy=>decide (x=y)) (0:Nat) (l.drop 0):=by rw[<-hr];exact (Z2 _ _).symm
 have hn:∀ i:Int,Zf (λy=>decide (x=y)) i []=-1:=λi=>rfl;have hc:∀ (i:Nat) a,l[i]?=some a->Zf (λy=>decide (x=y)) (i:Nat) (l.drop i)=if x=a then (i:Int) else Zf (λy=>decide (x=y)) ((i+1:Nat):Int) (l.drop (i+1)):=λi a h=>by rw[zY h,Z3];grind
 rw[hr];obtain⟨I,hI⟩:∃ I:Nat->Int,∀ i,I i=Zf (λy=>decide (x=y)) (i:Nat) (l.drop i):=⟨_,λ_=>rfl⟩;simp only[<-hI] at hc h0;have hN:I l.length=-1:=by grind
 clear hn hI hr;cbv;refine z7 (σ:=Nat) (λi=>⟨[(0,zlv l),(1,iV x),(7,iV l.length),(8,iV i)],[]⟩) (λi=>i<=l.length/\r=I i) (λi=>l.length-i) 0 ⟨xA _,h0⟩ (.le (by cbv;exact⟨lR,lR,zB (by (try dsimp only [zV] at *);rw[zA]),lR,trivial⟩) okZ rfl) ?_;intro i hi;obtain⟨h1,h2⟩:=hi;clear h0;cbv;refine zF (λh=>?_) (λh=>?_)
 ·(have hlt:i<l.length:=by exact om);obtain⟨a,ha⟩:=zS hlt
  have h3:=hc i a ha;clear hc;cbv;refine yL ha YY Qp ?_;cbv;refine zF (λe=>?_) (λe=>?_)
  ·rw[if_pos e] at h3;cbv
   (refine rC ?_;cbv)
   exact zB oM
  {rw[if_neg e] at h3;cbv;exact⟨zD om om,i+1,⟨(show i+1<=_ by omega),h2.trans h3⟩,(show l.length-(i+1)<l.length-i by omega),wkZ⟩}
 ·(have hi':i=l.length:=by exact om);rw[hi',hN] at h2
  cbv
  (refine rC ?_;cbv)
  exact zB h2.symm
def T8 (l:List Int)(x:Int):-1<=ixI l x/\ixI l x<=l.length:=⟨aS _ _,by
 have:=Ze (λy=>decide (x=y)) l;exact this⟩
structure Nbr (F:FuncId) (cs:List PV) (g:Int->Int):Prop where
 c:∀ n:Int,-4611686018427387905<=n->n<4611686018427387904->zC F [iV n,.dptr cs 0] (iV (g n))
 b:∀ n:Int,-4611686018427387905<=n->n<4611686018427387904->-9223372036854775808<g n/\g n<9223372036854775807
def Ly (M:List Int)(hl:M.length<2^38):Nbr 69 [zlv M] (ixI M):=by refine⟨λn _ _=>?_,λn _ _=>by have:=T8 M n;omega⟩;refine sF Tryz.f69 ?_;have c:=Ef M n hl;generalize ixI M n=r at *;cbv;refine cA c ?_;cbv;exact rA
def rnG (g:Int->Int) (x:Int):Int:=if 0<x then g (x-1)+1 else x
def rnQ (g:Int->Int) (m:Mult):Mult:=⟨⟨m.row.k,m.row.i,rnG g m.row.lo,rnG g m.row.hi⟩,m.c⟩
def Co (M:List Int) (x:Int):Int:=if 0<x then ixI M (x-1)+1 else x
def rnP (M:List Int) (m:Mult):Mult:=⟨⟨m.row.k,m.row.i,Co M m.row.lo,Co M m.row.hi⟩,m.c⟩
def okN {p:Prop}(h:p:=by cbv;repeat' first|exact trivial|exact lR|exact nqb_self _|exact allLe_refl1 _|exact zB om|exact rfl|apply And.intro):p:=h
def Te {F:FuncId}{cs:List PV}{g:Int->Int}(hG:Nbr F cs g)(l:List Mult)(hl:l.length<2^38)(hr:∀ m,m∈l->Rsm m.row):zC 72 [mlv l,.fn F [.dptr cs 0]] (mlv (l.map (rnQ g))):=by
 refine sF Tryz.f72 ?_;have c1:=Ej l hl;have c2:=hG.c;have hb:=hG.b;cbv;refine kW (λn=>300) (Wk.sel _ [1,9] [] rfl) c1 ?_;cbv;refine z7 (σ:=Nat) (λi=>⟨[(1,.fn F [.dptr cs 0]),(5,yX 300 7 l.length),(12,iV l.length),(13,iV i)],[(300,xF 7 (enc mc ((l.take i).map (rnQ g)++l.drop i)))]⟩) (λi=>i<=l.length) (λi=>l.length-i) 0 (xA _) (.le okN (by cbv;repeat' first|exact trivial|exact lR|exact zG (by simp)|apply And.intro) rfl) ?_;intro i hi;cbv;refine zF (λh=>?_) (λh=>?_)
 ·(have hlt:i<l.length:=by exact om);obtain⟨m,hm⟩:=zS hlt
  (have hrm:=hr m (z3 hm);have hdr:=zY hm;obtain⟨pre,hpre⟩:∃ X,(l.take i).map (rnQ g)=X:=⟨_,rfl⟩;obtain⟨post,hpost⟩:=ex (l.drop (i+1));have hpl:pre.length=i:=by grind);obtain⟨mk,hmk⟩:∃ mk:Nat->Mult,∀ k,mk k=⟨⟨m.row.k,m.row.i,if 0<k then rnG g m.row.lo else m.row.lo,if 1<k then rnG g m.row.hi else m.row.hi⟩,m.c⟩:=⟨_,λ_=>rfl⟩
  (have hm0:mk 0=m:=by simp_all);have hm2:mk 2=rnQ g m:=by rw[hmk];rfl
  (have hlen:∀ k,(pre++mk k::post).length=l.length:=λk=>by grind);have hget:∀ k,(pre++mk k::post)[i]?=some (mk k):=λk=>by grind
  (have hset:∀ k x,(pre++mk k::post).set i x=pre++x::post:=λk x=>by simp_all);rw[hpre,hdr,hpost,<-hm0]
  cbv;refine aX (σ:=Unit) (λ_=>⟨[(1,.fn F [.dptr cs 0]),(5,yX 300 7 l.length),(12,iV l.length),(13,iV i),(26,yX 26 1 2),(27,iV 2),(28,iV 0)],
    [(300,xF 7 (enc mc (pre++mk 0::post))),(26,.box [.aptr 300 7 (λ_=>0+((i:Nat):Int).toNat) 2,.aptr 300 7 (λ_=>0+((i:Nat):Int).toNat) 3])]⟩) (λ_=>True) (Wk.sel _ [1,5,6,12,13] [300] rfl) (by cbv) ?_ ?_
  ·cbv
   repeat' first
    |exact trivial
    |(refine⟨xI om om,?_⟩;cbv)
    |exact⟨(),trivial,.le okN (by cbv;repeat' first|exact trivial|exact lR|exact zG rfl|apply And.intro) rfl⟩
    |apply And.intro
  intro _ _;cbv;refine z7 (σ:=Nat) (λk=>⟨[(1,.fn F [.dptr cs 0]),(5,yX 300 7 l.length),(12,iV l.length),(13,iV i),(26,yX 26 1 2),(27,iV 2),(28,iV k)],
    [(300,xF 7 (enc mc (pre++mk k::post))),(26,.box [.aptr 300 7 (λ_=>0+((i:Nat):Int).toNat) 2,.aptr 300 7 (λ_=>0+((i:Nat):Int).toNat) 3])]⟩) (λk=>k<=2) (λk=>2-k) 0 (by decide) (.le okN (by cbv;repeat' first|exact trivial|exact lR|exact zG rfl|apply And.intro) rfl) ?_
  intro k hk;cbv;refine zF (λh2=>?_) (λh2=>?_)
  ·rcases (by exact om:k=0\/k=1) with rfl|rfl
   ·(have hrl:=hrm.2.1;have hg0:=hget 0;have e0:(mk 0).row.lo=m.row.lo:=by grind);have c3:=c2 (m.row.lo-1) oM oM
    (have hb3:=hb (m.row.lo-1) oM oM;have e1:0<m.row.lo->mk 1=⟨⟨(mk 0).row.k,(mk 0).row.i,g (m.row.lo-1)+1,(mk 0).row.hi⟩,(mk 0).c⟩:=λh=>by simp only[hmk];simp[rnG,h]);have e2:¬0<m.row.lo->mk 1=mk 0:=λh=>by simp only[hmk];simp[rnG,h]
    (generalize g (m.row.lo-1)=z at *;rw[<-e0] at hrl c3 e1 e2;have hs0:=hset 0;have hl0:=hlen 0;clear hget hset hlen hmk hm0 hm2 hb c1 c2;obtain⟨q',hq'⟩:=ex (mk 1);rw[hq'] at e1 e2;generalize mk 0=q at *;clear e0;cbv;refine⟨xI om om,⟨⟨(by grind),?_⟩⟩⟩;cbv;refine kQ (l:=pre++q::post) i om oM vA xS (λt ht=>?_);obtain rfl:q=t:=by grind);cbv
    refine zF (λh3=>?_) (λh3=>?_)
    ·(have e1':=e1 h3;clear e1 e2;cbv;refine kQ (l:=pre++q::post) i om oM vA xS (λt ht=>?_);obtain rfl:q=t:=by grind);cbv
     (refine⟨zD om om,?_⟩;cbv;refine yJ rfl okN c3 rfl ?_;cbv;refine⟨zD om om,kQ (l:=pre++q::post) i om oM vA xS (λt ht=>?_)⟩;obtain rfl:q=t:=by grind);cbv
     (have hels:(enc mc (pre++q::post)).set (0+((i:Nat):Int).toNat) (xT (mc ⟨⟨q.row.k,q.row.i,z+1,q.row.hi⟩,q.c⟩))=enc mc (pre++mk 1::post):=by rw[lI,show 0+((i:Nat):Int).toNat=i by omega,hs0,hq',e1']);exact⟨zD om om,1,(by decide),(by decide),.le okN (by cbv;repeat' first|exact trivial|exact lR|exact zG hels|apply And.intro) rfl⟩
    {have e2':=e2 h3;clear e1 e2;cbv;exact⟨zD om om,1,(by decide),(by decide),.le okN (by cbv;repeat' first|exact trivial|exact lR|exact zG (by rw[hq',e2'])|apply And.intro) rfl⟩}
   ·(have hrl:=hrm.2.2;have hg0:=hget 1;have e0:(mk 1).row.hi=m.row.hi:=by grind);have c3:=c2 (m.row.hi-1) oM oM
    (have hb3:=hb (m.row.hi-1) oM oM;have e1:0<m.row.hi->mk 2=⟨⟨(mk 1).row.k,(mk 1).row.i,(mk 1).row.lo,g (m.row.hi-1)+1⟩,(mk 1).c⟩:=λh=>by simp only[hmk];simp[rnG,h]);have e2:¬0<m.row.hi->mk 2=mk 1:=λh=>by simp only[hmk];simp[rnG,h]
    (generalize g (m.row.hi-1)=z at *;rw[<-e0] at hrl c3 e1 e2;have hs0:=hset 1;have hl0:=hlen 1;clear hget hset hlen hmk hm0 hm2 hb c1 c2;obtain⟨q',hq'⟩:=ex (mk 2);rw[hq'] at e1 e2;generalize mk 1=q at *;clear e0;cbv;refine⟨xI om om,⟨⟨(by grind),?_⟩⟩⟩;cbv;refine kQ (l:=pre++q::post) i om oM vA xS (λt ht=>?_);obtain rfl:q=t:=by grind);cbv
    refine zF (λh3=>?_) (λh3=>?_)
    ·(have e1':=e1 h3;clear e1 e2;cbv;refine kQ (l:=pre++q::post) i om oM vA xS (λt ht=>?_);obtain rfl:q=t:=by grind);cbv
     (refine⟨zD om om,?_⟩;cbv;refine yJ rfl okN c3 rfl ?_;cbv;refine⟨zD om om,kQ (l:=pre++q::post) i om oM vA xS (λt ht=>?_)⟩;obtain rfl:q=t:=by grind);cbv
     (have hels:(enc mc (pre++q::post)).set (0+((i:Nat):Int).toNat) (xT (mc ⟨⟨q.row.k,q.row.i,q.row.lo,z+1⟩,q.c⟩))=enc mc (pre++mk 2::post):=by rw[lI,show 0+((i:Nat):Int).toNat=i by omega,hs0,hq',e1']);exact⟨zD om om,2,(by decide),(by decide),.le okN (by cbv;repeat' first|exact trivial|exact lR|exact zG hels|apply And.intro) rfl⟩
    {have e2':=e2 h3;clear e1 e2;cbv;exact⟨zD om om,2,(by decide),(by decide),.le okN (by cbv;repeat' first|exact trivial|exact lR|exact zG (by rw[hq',e2'])|apply And.intro) rfl⟩}
  ·(have hk2:k=2:=by exact om);subst hk2
   (have he:(l.take (i+1)).map (rnQ g)++l.drop (i+1)=pre++mk 2::post:=by rw[tC,hm,hpost,hm2,gP,hpre,Fj];rfl);clear hget hset hlen hmk hm0 hm2 hb c1 c2
   cbv;exact⟨zD om om,i+1,(show i+1<=l.length by omega),(show l.length-(i+1)<l.length-i by omega),.le okN (by cbv;repeat' first|exact trivial|exact lR|exact zG (by rw[he])|apply And.intro) rfl⟩
 ·(have hi':i=l.length:=by exact om);have hT:(((enc mc ((l.take i).map (rnQ g)++l.drop i)).drop 0).take l.length)=enc mc (l.map (rnQ g)):=by rw[hi',v9,vE,jV,wZ,yU (by rw[zA,y4];omega)]
  (have hfr:0+l.length<=(enc mc ((l.take i).map (rnQ g)++l.drop i)).length:=by rw[zA,gD,y4,kX,bS];omega);cbv
  refine bD _ (.frz 300 rfl rfl (by cbv;repeat' first|exact trivial|exact zZ hfr|apply And.intro) (by cbv;repeat' first|exact trivial|apply And.intro)) rfl ?_;cbv;exact zR hT
def El (l:List Lem)(hl:l.length<2^38):Sound 146 [llv l] [] [] (yX 100 6 l.length) [] [(100,xF 6 (enc lc l))]:=by
 refine sF Tryz.f146 ?_;cbv;refine⟨λb hb=>?_⟩;cbv;refine zO (λh=>?_) (λh=>?_)
 ·(have hb':=hb h;have hl0:l=[]:=by have:=congrArg List.length hb';rw[zA] at this;exact kD this);cbv;subst hl0;refine tY (ps':=⟨[(2,yX 100 6 0)],[(100,xF 6 ([]))]⟩) 100 (.trans (.le (ps':=⟨[(2,.nil)],[]⟩) ?_ trivial rfl) (.adoptT (ps:=⟨[(2,.nil)],[]⟩) 100 6 2 rfl rfl)) rfl rfl rfl ?_;{cbv;exact okA};{cbv;exact zT rfl rfl}
 {cbv;refine wM gF rfl rfl rfl rfl rfl (xE y7 _) (z8 om (by simp only[dO,zA];exact om)) rfl ?_;cbv;refine tY (ps':=⟨[(2,yX 7 6 l.length)],[(7,xF 6 (enc lc l))]⟩) 7 (.le ?_ ?_ rfl) rfl rfl rfl ?_;{cbv;exact⟨zT rfl (by simp[zA]),trivial⟩};{cbv;exact⟨zG rfl,trivial⟩};{cbv;exact lR}}
def rnL (M:List Int) (m:Lem):Lem:=⟨m.u,m.up,m.v,m.pf.map (rnP M)⟩
def YI (g:Int->Int) (m:Lem):Lem:=⟨m.u,m.up,m.v,m.pf.map (rnQ g)⟩
def M7 {F:FuncId}{cs:List PV}{g:Int->Int}(hG:Nbr F cs g)(l:List Lem)(hl:l.length<2^38)(hp:∀ m,m∈l->m.pf.length<2^38/\∀ y,y∈m.pf->Rsm y.row):zC 71 [llv l,.fn F [.dptr cs 0]] (llv (l.map (YI g))):=by
 refine sF Tryz.f71 ?_;have c1:=El l hl;have c2:=λm (h:m∈l)=>Te hG m.pf (hp m h).1 (hp m h).2;clear hp;cbv;refine kW (λn=>300) (Wk.sel _ [1,7] [] rfl) c1 ?_;cbv;refine z7 (σ:=Nat) (λi=>⟨[(1,.fn F [.dptr cs 0]),(5,yX 300 6 l.length),(10,iV l.length),(11,iV i)],[(300,xF 6 (enc lc ((l.take i).map (YI g)++l.drop i)))]⟩) (λi=>i<=l.length) (λi=>l.length-i) 0 (xA _) (.le okN (by cbv;repeat' first|exact trivial|exact lR|exact zG (by simp)|apply And.intro) rfl) ?_;intro i hi;cbv;refine zF (λh=>?_) (λh=>?_)
 ·(have hlt:i<l.length:=by exact om);obtain⟨m,hm⟩:=zS hlt
  (have c3:=c2 m (z3 hm);have hdr:=zY hm;obtain⟨pre,hpre⟩:∃ X,(l.take i).map (YI g)=X:=⟨_,rfl⟩;obtain⟨post,hpost⟩:=ex (l.drop (i+1));have hpl:pre.length=i:=by rw[<-hpre,y4,kX];omega);have hlen:(pre++m::post).length=l.length:=by rw[gD,rK,<-hpost,bS,hpl];omega
  (have hget:(pre++m::post)[i]?=some m:=by rw[iH oM,hpl,W7];rfl);have hset:∀ x,(pre++m::post).set i x=pre++x::post:=λx=>by rw[List.set_append_right _ _ oM,hpl,W7];rfl
  (have he:(l.take (i+1)).map (YI g)++l.drop (i+1)=pre++YI g m::post:=by rw[tC,hm,hpost,gP,hpre,Fj];rfl);have hr:YI g m=⟨m.u,m.up,m.v,m.pf.map (rnQ g)⟩:=rfl
  (rw[hpre,hdr,hpost];generalize m.pf.map (rnQ g)=pf' at *;clear c1 c2;cbv;refine⟨xI om om,kQ (l:=pre++m::post) i om oM xB y7 (λt ht=>?_)⟩;obtain rfl:m=t:=by rw[hget] at ht;exact kF ht);cbv
  (refine yJ rfl okN c3 rfl ?_;cbv;refine⟨xI om om,kQ (l:=pre++m::post) i om oM xB y7 (λt ht=>?_)⟩;obtain rfl:m=t:=by rw[hget] at ht;exact kF ht);cbv
  (have hels:(enc lc (pre++m::post)).set (0+((i:Nat):Int).toNat) (xT (lc ⟨m.u,m.up,m.v,pf'⟩))=enc lc ((l.take (i+1)).map (YI g)++l.drop (i+1)):=by rw[lI,show 0+((i:Nat):Int).toNat=i by omega,hset,he,hr]);exact⟨zD om om,i+1,(show i+1<=l.length by omega),(show l.length-(i+1)<l.length-i by omega),.le okN (by cbv;repeat' first|exact trivial|exact lR|exact zG hels|apply And.intro) rfl⟩
 ·(have hi':i=l.length:=by exact om);have hT:(((enc lc ((l.take i).map (YI g)++l.drop i)).drop 0).take l.length)=enc lc (l.map (YI g)):=by rw[hi',v9,vE,jV,wZ,yU (by rw[zA,y4];exact yD _)]
  (have hfr:0+l.length<=(enc lc ((l.take i).map (YI g)++l.drop i)).length:=by rw[zA,gD,y4,kX,bS];omega);cbv
  refine bD _ (.frz 300 rfl rfl (by cbv;repeat' first|exact trivial|exact zZ hfr|apply And.intro) (by cbv;repeat' first|exact trivial|apply And.intro)) rfl ?_;cbv;exact zR hT
def Scp.closes (s:Scp) (em:Bool) (l:List Mult):Bool:=if em=true then s.refutes l else s.proves s.q.goal l
def Nc (s:Scp)(em:Bool)(l:List Mult)(hs:s.sz (2^20))(hl:Msz (2^23) l)(hn:l.length<=100):zC 65 [sv s,zL em,mlv l] (zL (s.closes em l)):=by
 refine sF Tryz.f65 ?_;have c1:=J9 s l hs hl hn;have c2:=VK s s.q.goal l hs (hs.q.goal.mono (by decide)) hl hn;have e1:em=true->s.closes em l=s.refutes l:=λh=>by unfold Scp.closes;rw[if_pos h]
 have e2:em=false->s.closes em l=s.proves s.q.goal l:=λh=>by unfold Scp.closes;rw[if_neg (by rw[h];decide)]
 generalize s.closes em l=r at *;generalize s.refutes l=r1 at *;generalize s.proves s.q.goal l=r2 at *;clear hs;obtain⟨⟨⟨n,us,os⟩,⟨lo,hi',rows⟩,⟨ts,c⟩⟩,path,L⟩:=s;dsimp only [sv] at *;cbv;refine zO (λe=>?_) (λe=>?_);{have:=e1 e;subst this;cbv;refine cA c1 ?_;cbv;exact rA};{have:=e2 e;subst this;cbv;refine cA c2 ?_;cbv;exact rA}
structure Rsn where
 cl:List xH
 lems:List Lem
 em:Bool
 pf:List Mult
abbrev rsv (r:Rsn):PV:=.agg [bX r.cl,llv r.lems,zL r.em,mlv r.pf]
def R00n:Rsn:=⟨[],[],false,[]⟩
def Scp.dec (s:Scp) (k:Int):Dec:=(s.path[k.toNat]?).getD ⟨0,0,R0⟩
def Scp.lemA (s:Scp) (k:Int):Lem:=(s.lems[k.toNat]?).getD ⟨0,false,R0,[]⟩
def lgo (s:Scp):List Int->List xH->Option (List xH)
 |[],acc=>some acc
 |k::r,acc=>match lV (s.dec k) with
  |none=>none| some x=>lgo s r (acc++[(x.1,!x.2)])
def vW (s:Scp) (em:Bool) (l:List Mult):Rsn×Int :=
 if s.scopeB=false then (R00n,1)
 else if s.closes em l=false then (R00n,12)
 else match lgo s (vM (s.marks l).1) [] with
  |none=>(R00n,10)
  |some ls=>match mkP ls with
   |none=>(R00n,10)| some c=>(⟨c,((vM (s.marks l).2).map s.lemA).map (rnL (vM (s.marks l).2)),em,l.map (rnP (vM (s.marks l).2))⟩,0)
structure LrnOk (s:Scp) (l:List Mult):Prop where
 sz:s.sz (2^20)
 pf:∀ m,m∈s.lems->m.pf.length<=100/\∀ y,y∈m.pf->Rsm y.row
 lz:Msz (2^23) l
 n:l.length<=100
 r:∀ m,m∈l->Rsm m.row
 u:zC 14 [sv s,mlv l] (.tup [zlv (vM (s.marks l).1),zlv (vM (s.marks l).2)])
 d:∀ k,k∈vM (s.marks l).1->0<=k/\k<s.path.length
 mm:∀ k,k∈vM (s.marks l).2->0<=k/\k<s.lems.length
 dl:(vM (s.marks l).1).length<=12
 ml:(vM (s.marks l).2).length<=1000
 nr:∀ ls,lgo s (vM (s.marks l).1) []=some ls->XW (bG ls).reverse
def Tl (s:Scp)(em:Bool)(l:List Mult)(h:LrnOk s l):zC 20 [sv s,zL em,mlv l] (.tup [rsv (vW s em l).1,iV ((vW s em l).2)]):=by
 refine sF Tryz.f20 ?_;have c1:=Kn s h.sz (λm hm=>(h.pf m hm).1);have c2:=Nc s em l h.sz h.lz h.n;have c3:=h.u;have hR:vW s em l=if s.scopeB=false then ((R00n,1):Rsn×Int)
  else if s.closes em l=false then (R00n,12)
  else match lgo s (vM (s.marks l).1) [] with
   |none=>(R00n,10)
   |some ls=>match mkP ls with
    |none=>(R00n,10)| some c=>(⟨c,((vM (s.marks l).2).map s.lemA).map (rnL (vM (s.marks l).2)),em,l.map (rnP (vM (s.marks l).2))⟩,0):=rfl
 have hd:=h.d;have hm:=h.mm;have hdl:=h.dl;have hml:=h.ml;have hnr:=h.nr;have hdc:∀ k,k∈vM (s.marks l).1->s.path[k.toNat]?=some (s.dec k):=λk hk=>by grind [Scp.dec]
 have hlm:∀ k,k∈vM (s.marks l).2->s.lems[k.toNat]?=some (s.lemA k):=λk hk=>by grind [Scp.lemA]
 have hnb:=Ly (vM (s.marks l).2) oM;have c8:zC 72 [mlv l,.fn 69 [.dptr [zlv (vM (s.marks l).2)] 0]] (mlv (l.map (rnP (vM (s.marks l).2)))):=Te hnb l (xP h.n (by decide)) h.r;have c7:zC 71 [llv ((vM (s.marks l).2).map s.lemA),.fn 69 [.dptr [zlv (vM (s.marks l).2)] 0]] (llv (((vM (s.marks l).2).map s.lemA).map (rnL (vM (s.marks l).2)))):=M7 hnb ((vM (s.marks l).2).map s.lemA) (by grind) (λm' hm'=>by obtain⟨k,hk,rfl⟩:=yZ.1 hm';obtain⟨g1,g2⟩:=h.pf _ (z3 (hlm k hk));grind);have c4:=λk=>LW (s.dec k);have c6:=λls (h1:lgo s (vM (s.marks l).1) []=some ls) (h2:ls.length<=12)=>Lu ls h2 (hnr ls h1);have hpl:=h.sz.path.len;have hll:=h.sz.lems.len;have hgo:∀ k r acc,lgo s (k::r) acc=match lV (s.dec k) with
  |none=>none| some x=>lgo s r (acc++[(x.1,!x.2)]):=λ_ _ _=>rfl
 have hgn:∀ acc,lgo s [] acc=some acc:=λ_=>rfl;obtain⟨RR,hRR⟩:=ex (vW s em l);rw[hRR] at hR ⊢;obtain⟨GO,hGO⟩:∃ GO:List Int->List xH->Option (List xH),∀ r acc,lgo s r acc=GO r acc:=⟨_,λ_ _=>rfl⟩;simp only[hGO] at hgo hgn c6 hR;clear hRR hGO hnr h;generalize s.scopeB=b1 at *;generalize s.closes em l=b2 at *;generalize vM (s.marks l).1=D at *;generalize vM (s.marks l).2=M at *;generalize (M.map s.lemA).map (rnL M)=L7 at *;generalize l.map (rnP M)=l8 at *;generalize Scp.dec s=dec at *;generalize Scp.lemA s=lemA at *;obtain⟨r1,e9⟩:=RR;obtain⟨⟨⟨n,us,os⟩,⟨lo,hi',rows⟩,⟨ts,c⟩⟩,path,L⟩:=s;dsimp only [sv] at *;cbv;refine cA c1 ?_;cbv;refine zO (λe=>?_) (λe=>?_)
 rotate_left
 {rw[if_pos e] at hR;cases hR;cbv;exact rA};rw[if_neg (by grind)] at hR;cbv;refine cA c2 ?_;cbv;refine zO (λe2=>?_) (λe2=>?_)
 rotate_left
 {rw[if_pos e2] at hR;cases hR;cbv;exact rA};rw[if_neg (by grind)] at hR;clear c1 c2;cbv;refine cA c3 ?_;cbv;refine z7 (σ:=Nat×List xH) (λt=>⟨[(1,zL em),(2,mlv l),(3,.ptr 3 0),(6,.ptr 6 0),(9,.ptr 9 0),(10,yX 59 2 t.2.length),(37,zlv D),(38,iV D.length),(39,iV t.1)],[(3,.box [iV n,alv us,alv os,rlv lo,rlv hi',alv rows,tsv ts,zL c.neg,nat c.num,nat c.den,dlv path,llv L]),(6,.box [.nil,.nil,.ff,.nil]),(9,.box [zlv M]),(59,xF 2 (enc ltc t.2))]⟩)
  (λt=>t.1<=D.length/\GO D []=GO (D.drop t.1) t.2/\t.2.length=t.1) (λt=>D.length-t.1) (0,[]) ⟨xA _,rfl,rfl⟩
  (.trans (.le (ps':=⟨[(1,zL em),(2,mlv l),(3,.ptr 3 0),(6,.ptr 6 0),(9,.ptr 9 0),(10,.nil),(37,zlv D),(38,iV D.length),(39,iV (((0:Nat):Int)))],[(3,.box [iV n,alv us,alv os,rlv lo,rlv hi',alv rows,tsv ts,zL c.neg,nat c.num,nat c.den,dlv path,llv L]),(6,.box [.nil,.nil,.ff,.nil]),(9,.box [zlv M])]⟩) (by cbv;repeat' first|exact trivial|exact lR|exact zB (by (try dsimp only [zV] at *);rw[zA])|apply And.intro) okZ rfl)
   (.trans (.adoptT (ps:=⟨[(1,zL em),(2,mlv l),(3,.ptr 3 0),(6,.ptr 6 0),(9,.ptr 9 0),(10,.nil),(37,zlv D),(38,iV D.length),(39,iV (((0:Nat):Int)))],[(3,.box [iV n,alv us,alv os,rlv lo,rlv hi',alv rows,tsv ts,zL c.neg,nat c.num,nat c.den,dlv path,llv L]),(6,.box [.nil,.nil,.ff,.nil]),(9,.box [zlv M])]⟩) 59 2 10 rfl rfl) (wkZ))) ?_
 intro t ht;obtain⟨i,acc⟩:=t;obtain⟨h1,h2,h3⟩:=ht;dsimp only at h1 h2 h3;cbv;refine zF (λh=>?_) (λh=>?_)
 ·(have hlt:i<D.length:=by exact om);obtain⟨k,hk⟩:=zS hlt
  have hkm:=z3 hk;have hp:=hdc k hkm;obtain⟨k0,k1⟩:=hd k hkm;have c5:=c4 k;rw[zY hk,hgo] at h2;generalize dec k=d at *;clear c4 c6 c7 c8 hdc hd hlm hm;cbv;refine yL hk YY Qp ?_;cbv;refine x5 hp (by exact om) uF qP ?_;cbv;refine cA c5 ?_;cbv;cases hx:lV d with
  |none =>
   rw[hx] at h2;dsimp only at h2;rw[h2] at hR;dsimp only at hR;cases hR;cbv;refine WJ rfl ?_;cbv;exact rA
  |some x =>
   (rw[hx] at h2;dsimp only at h2;have c9:=To x;have hen:enc ltc (acc++[(x.1,!x.2)])=enc ltc acc++zW [ltc (x.1,!x.2)]:=by simp[enc,zW]);have hal:(acc++[(x.1,!x.2)]).length=i+1:=by grind
   clear c5 hR;obtain⟨x1,x2⟩:=x;dsimp only at *;cbv;refine dE rfl ?_;cbv;refine cA c9 ?_;cbv;refine jU DG rfl rfl rfl (by simp[zA]) rfl ⟨by simp[zW,xT]⟩ (z8 oM (by simp[zW,zA] at *;exact om)) rfl ?_;cbv;exact⟨zD om om,(i+1,acc++[(x1,!x2)]),⟨(show i+1<=D.length by omega),h2,hal⟩,(show D.length-(i+1)<D.length-i by omega),.le (by cbv;repeat' first|exact trivial|exact lR|exact zT rfl (by simp[zW,zA])|exact zB om|apply And.intro) (by cbv;repeat' first|exact trivial|exact lR|exact zG (by rw[hen];rfl)|apply And.intro) rfl⟩
 have hiD:i=D.length:=by exact om
 rw[hiD,vE,hgn] at h2;rw[h2] at hR;dsimp only at hR;have c6':=c6 acc h2 oM;have hT:((enc ltc acc).drop 0).take acc.length=enc ltc acc:=by rw[wZ,<-zA ltc acc,v9]
 have hfr:0+acc.length<=(enc ltc acc).length:=by grind [zA]
 clear c6 c4 h2 hgo hgn hdc hd;cbv;refine qR (.frz 59 rfl rfl (by cbv;repeat' first|exact trivial|exact zZ hfr|apply And.intro) (by cbv;repeat' first|exact trivial|apply And.intro)) rfl (by exact⟨zR hT,trivial⟩) c6' rfl ?_;cbv;cases hx:mkP acc with
 |none =>
  rw[hx] at hR;dsimp only at hR;cases hR;cbv;refine WJ rfl ?_;cbv;exact rA
 |some cl =>
  rw[hx] at hR;dsimp only at hR;cases hR;clear c6';cbv;refine dE rfl ?_;cbv;refine z7 (σ:=Nat) (λi=>⟨[(2,mlv l),(3,.ptr 3 0),(6,.ptr 6 0),(17,.ptr 17 0),(18,.fn 69 [.ptr 9 0]),(73,zlv M),(74,iV M.length),(75,iV i)],[(3,.box [iV n,alv us,alv os,rlv lo,rlv hi',alv rows,tsv ts,zL c.neg,nat c.num,nat c.den,dlv path,llv L]),(6,.box [.nil,.nil,.ff,.nil]),(9,.box [zlv M]),(17,.box [bX cl,yX 87 6 i,zL em,.nil]),(87,xF 6 (enc lc ((M.take i).map lemA)))]⟩)
   (λi=>i<=M.length) (λi=>M.length-i) 0 (xA _)
   (.trans (.le (ps':=⟨[(2,mlv l),(3,.ptr 3 0),(6,.ptr 6 0),(17,.ptr 17 0),(18,.fn 69 [.ptr 9 0]),(73,zlv M),(74,iV M.length),(75,iV (((0:Nat):Int)))],[(3,.box [iV n,alv us,alv os,rlv lo,rlv hi',alv rows,tsv ts,zL c.neg,nat c.num,nat c.den,dlv path,llv L]),(6,.box [.nil,.nil,.ff,.nil]),(9,.box [zlv M]),(17,.box [bX cl,.nil,zL em,.nil])]⟩) (by cbv;repeat' first|exact trivial|exact lR|exact zB (by (try dsimp only [zV] at *);rw[zA])|apply And.intro) okZ rfl)
    (.trans (.adoptB (ps:=⟨[(2,mlv l),(3,.ptr 3 0),(6,.ptr 6 0),(17,.ptr 17 0),(18,.fn 69 [.ptr 9 0]),(73,zlv M),(74,iV M.length),(75,iV (((0:Nat):Int)))],[(3,.box [iV n,alv us,alv os,rlv lo,rlv hi',alv rows,tsv ts,zL c.neg,nat c.num,nat c.den,dlv path,llv L]),(6,.box [.nil,.nil,.ff,.nil]),(9,.box [zlv M]),(17,.box [bX cl,.nil,zL em,.nil])]⟩) (cs:=[bX cl,.nil,zL em,.nil]) 87 6 17 1 rfl rfl rfl) (wkZ))) ?_
  intro i hi;cbv;refine zF (λh=>?_) (λh=>?_)
  ·(have hlt:i<M.length:=by exact om);obtain⟨k,hk⟩:=zS hlt
   (have hkm:=z3 hk;have hp:=hlm k hkm;obtain⟨k0,k1⟩:=hm k hkm;have hen:enc lc ((M.take (i+1)).map lemA)=enc lc ((M.take i).map lemA)++zW [lc (lemA k)]:=by rw[tC,hk];simp[enc,zW]);have hln:(enc lc ((M.take i).map lemA)).length=i:=by rw[zA,y4,kX];omega
   generalize lemA k=m at *;clear c7 c8 hlm hm;cbv;refine yL hk YY Qp ?_;cbv;refine zM 8 (by cbv) ?_;cbv;refine x5 hp (by exact om) xB y7 ?_;cbv;refine jU gF rfl rfl rfl (by rw[hln]) rfl ⟨by simp[zW,xT]⟩ (z8 oM (by rw[hln];simp[zW];exact om)) rfl ?_;cbv;exact⟨zD om om,i+1,(show i+1<=M.length by omega),(show M.length-(i+1)<M.length-i by omega),.le okZ (by cbv;repeat' first|exact trivial|exact lR|exact zT rfl (by rw[hln];simp[zW])|exact zG (by rw[hen];rfl)|apply And.intro) rfl⟩
  ·(have hiM:i=M.length:=by exact om);have hen:enc lc ((M.take i).map lemA)=enc lc (M.map lemA):=by grind
   (have hT2:((enc lc ((M.take i).map lemA)).drop 0).take i=enc lc (M.map lemA):=by rw[hen,wZ,yU (by rw[zA,y4];omega)]);have hfr2:0+i<=(enc lc ((M.take i).map lemA)).length:=by grind [zA]
   clear hlm hm hen;cbv;refine qR (.trans (.frz 87 rfl rfl (by cbv;repeat' first|exact trivial|exact zZ hfr2|apply And.intro) (by cbv;repeat' first|exact trivial|exact zZ hfr2|apply And.intro)) (.frz 9 rfl rfl (by cbv;repeat' first|exact trivial|apply And.intro) (by cbv;repeat' first|exact trivial|apply And.intro))) rfl (by exact⟨zR hT2,⟨rfl,lR,trivial⟩,trivial⟩) c7 rfl ?_;cbv;refine yJ rfl (by exact⟨lR,⟨rfl,lR,trivial⟩,trivial⟩) c8 rfl ?_;cbv;exact rA
end Go.Proofs.YtaeaffgjdcigoaaGreat
