/- A part of the proof: KcF, KcA, KcC, KcB, KcD. -/
import Derived.Test.YtaeaffgjdcigoaaGreatG31
import Derived.Test.YtaeaffgjdcigoaaGreatG28
set_option linter.all false
namespace Go.Proofs.YtaeaffgjdcigoaaGreat
open Go
set_option maxRecDepth 100000
set_option maxHeartbeats 4000000
def LC {rs:List ResultVar}{r:PV}{ps ps':PS}{made:List (Nat×Obj')}(hn:Nat->Nat)(hw:Wk ps ps')(h3:lv r=true)(h4:uU hn ps'.objs made)(h5:ndO (z9 hn made)=true)(h:match dL ps' rs with
  |some l=>les (nE l) (ren hn r)| none=>False):RetOk rs r [] made ps:=by
 cases h1:dL ps' rs with
 |none=>grind| some l=>rw[h1] at h;exact⟨ps',l,hn,hw,h1,dW h,h3,h4,h5,trivial⟩
def MP {s:Scp}{n:Nat}{m:Lem}(h:s.lems[n]?=some m):s.pfn n=m.pf:=by grind [Scp.pfn]
theorem FM (n:Nat):List.replicate n [D.bool false]=enc bc (List.replicate n false):=by simp[enc,bc,xE,toD]
def EJ (s : Scp) (l : List Mult) (hs : Psz s) (hl : l.length < 2^38) (hL : s.lems.length < 2^38) (hpf : ∀ m, m ∈ s.lems → m.pf.length < 2^38) :
    Sound 15 [sv s, mlv l] [] [] (.tup [oV 100 1 s.path.length, oV 101 1 s.lems.length]) [] [bao 100 (s.marks l).1, bao 101 (s.marks l).2] := by
  refine sF Tryz.f15 ?_
  have hpl := hs.p.len
  have cm := fun l st h h1 h2 => EL s l st hs h h1 h2
  have hml := fun l st => lM s l st
  obtain ⟨X, hX⟩ : ∃ X : List Mult → Mst → Mst, rL s = X := ⟨_, rfl⟩
  obtain ⟨G, hG⟩ : ∃ G : Nat → Mst → Mst, nH s = G := ⟨_, rfl⟩
  have hG0 : ∀ st, G 0 st = st := fun st => by rw [← hG]; rfl
  have hGs : ∀ n m st, s.lems[n]? = some m → G (n + 1) st = G n (if st.2.getD n false = true then X m.pf st else st) := fun n m st h => by rw [← hG, ← hX, ← MP h]; rfl
  have hR : s.marks l = G s.lems.length (X l (List.replicate s.path.length false, List.replicate s.lems.length false)) := by rw [← hG, ← hX]; rfl
  obtain ⟨R, hRe⟩ := ex (s.marks l)
  rw [hRe] at hR ⊢
  rw [hX] at cm hml
  obtain ⟨st1, hst1⟩ := ex (X l (List.replicate s.path.length false, List.replicate s.lems.length false))
  have c1 := cm l (List.replicate s.path.length false, List.replicate s.lems.length false) hl (by grind) (by grind)
  have hl1 := hml l (List.replicate s.path.length false, List.replicate s.lems.length false)
  rw [hst1] at hR c1 hl1
  simp only [Da] at c1 hl1
  obtain ⟨D1, M1⟩ := st1
  obtain ⟨RD, RM⟩ := R
  dsimp only at *
  generalize hD0 : List.replicate s.path.length false = D0 at *
  generalize hM0 : List.replicate s.lems.length false = M0 at *
  have e1 : ∀ n : Nat, n = s.path.length → List.replicate n [D.bool false] = enc bc D0 := fun n h => by grind [FM]
  have e2 : ∀ n : Nat, n = s.lems.length → List.replicate n [D.bool false] = enc bc M0 := fun n h => by grind [FM]
  clear hX hG hRe hst1 hs
  cbv
  refine rN (σ := Unit) (fun _ => ⟨[(1, mlv l), (2, .ptr 2 0), (6, oV 12 1 s.path.length), (7, oV 16 1 s.lems.length)], [(2, .box (sc s)), bao 12 D0, bao 16 M0]⟩) (fun _ => True) (.refl _) (by cbv) ?_ ?_
  · cbv
    repeat' first
      | exact trivial
      | (refine ⟨(), trivial, .le ?_ ?_ rfl⟩
         · cbv; exact ⟨lR, lR, zZ rfl (by simp [zA]), zZ rfl (by simp [zA]), trivial⟩
         · cbv; refine ⟨?_, zH (e1 _ (by simp [zA])), zH (e2 _ (by simp [zA])), trivial⟩; repeat' first | exact trivial | exact lR | apply And.intro)
      | (refine ⟨z5 (by simp [zA] <;> omega) (by simp only [zA]; exact om), kX (by simp [zA] <;> omega) (by simp [zA]), ?_⟩; cbv)
      | apply And.intro
  intro _ _
  cbv
  refine bS LY (.refl _) rfl (by exact ⟨by repeat' first | exact trivial | exact lR | apply And.intro, lR, lR, lR, trivial⟩) c1 okR rfl rfl rfl rfl rfl rfl rfl rfl ?_
  cbv
  clear c1 e1 e2 hD0 hM0
  obtain ⟨hl1, hl2⟩ := hl1
  refine ⟨zC (by rw [zA]; exact om) (by rw [zA]; exact om), ?_⟩
  refine zW (σ := Nat × List Bool × List Bool) (fun x => ⟨[(2, .ptr 2 0), (6, oV 12 1 s.path.length), (7, oV 16 1 s.lems.length), (8, iV (((x.1 : Nat) : Int) - 1))], [(2, .box (sc s)), bao 12 x.2.1, bao 16 x.2.2]⟩)
    (fun x => x.1 ≤ s.lems.length ∧ G x.1 (x.2.1, x.2.2) = (RD, RM) ∧ x.2.1.length = s.path.length ∧ x.2.2.length = s.lems.length) (fun x => x.1) (s.lems.length, D1, M1) ⟨yD _, hR.symm, hl1, hl2⟩ (.le ?_ okZ rfl) ?_
  · cbv; exact ⟨lR, lR, lR, zB (by rw [zA]), trivial⟩
  clear hR hl1 hl2
  intro x hx
  obtain ⟨n, D, M⟩ := x
  obtain ⟨g1, g2, g3, g4⟩ := hx
  dsimp only at g1 g2 g3 g4
  cbv
  refine zE (fun h5 => ?_) (fun h5 => ?_)
  · obtain ⟨k, rfl⟩ : ∃ k, n = k + 1 := ⟨n - 1, by exact om⟩
    obtain ⟨m, hm⟩ := zO (l := s.lems) (i := k) oM
    have hpm := hpf m (zX hm)
    rw [hGs k m _ hm] at g2
    have c := cm m.pf (D, M) hpm (by grind) (by grind)
    have ml := hml m.pf (D, M)
    generalize X m.pf (D, M) = Y at *
    obtain ⟨D', M'⟩ := Y
    dsimp only at g2 c ml
    rw [g3, g4] at c
    cbv
    refine ⟨yZ om om, tT (p := bc) M rfl k om om tZ eT (fun b hb => ?_)⟩
    have hb' : M.getD k false = b := by grind
    rw [hb'] at g2
    cbv
    refine zP (fun e => ?_) (fun e => ?_)
    · rw [if_pos e] at g2
      cbv
      refine rN (σ := Unit) (fun _ => ⟨[(2, .ptr 2 0), (6, oV 12 1 s.path.length), (7, oV 16 1 s.lems.length), (8, iV (((k + 1 : Nat) : Int) - 1))], [(2, .box (sc s)), bao 12 D', bao 16 M']⟩) (fun _ => True) (.refl _) (by cbv) ?_ ?_
      · cbv
        repeat' first
          | exact trivial
          | exact ⟨(), trivial, wkZ⟩
          | (refine ⟨yZ om om, tT (p := bc) M rfl k om om tZ eT (fun b hb => ?_)⟩; cbv)
          | (refine y6 hm rfl y0 xD ?_; cbv)
          | (refine y6 hm om y0 xD ?_; cbv)
          | (refine bS LY (.refl _) rfl (by exact ⟨by repeat' first | exact trivial | exact lR | apply And.intro, lR, lR, lR, trivial⟩) c okR rfl rfl rfl rfl rfl rfl rfl rfl ?_; cbv)
          | apply And.intro
      · intro _ _
        cbv
        exact ⟨zC om om, (k, D', M'), ⟨oM, g2, (by grind), (by grind)⟩, om, wkZ⟩
    · rw [if_neg (by grind)] at g2
      cbv
      exact ⟨zC om om, (k, D, M), ⟨oM, g2, g3, g4⟩, om, wkZ⟩
  · have hn : n = 0 := by exact om
    subst hn
    rw [hG0] at g2
    cases g2
    cbv
    refine LC (fun n => match nqb n 100 with | true => 12 | false => 16) (.refl _) rfl ⟨⟨rfl, rfl⟩, ⟨rfl, rfl⟩, trivial⟩ rfl ?_
    cbv
    exact okA
theorem DT (l:List Bool)(i:Nat)(h:i<l.length):((List.range (i+1)).filter λk=>l.getD k false).map (λk:Nat=>(k:Int))=((List.range i).filter λk=>l.getD k false).map (λk:Nat=>(k:Int))++(if l.getD i false=true then [(i:Int)] else []):=by rw[Sf,List.filter_append,gH];grind
def Z6 (l:List Bool)(i:Nat):(((List.range i).filter λk=>l.getD k false).map (λk:Nat=>(k:Int))).length<=i:=by grind
def ER (l:List Bool)(hl:l.length<2^38):zD 17 [.sl (λ_=>enc bc l)] (zlv (wN l)):=by
 refine sF Tryz.f17 ?_;obtain⟨J,hJ⟩:∃ J:Nat->List Int,∀ i,J i=((List.range i).filter λk=>l.getD k false).map (λk:Nat=>(k:Int)):=⟨_,λ_=>rfl⟩;have hJ0:J 0=[]:=by grind
 have hJs:∀ i,i<l.length->J (i+1)=J i++(if l.getD i false=true then [(i:Int)] else []):=λi h=>by grind [DT]
 have hJl:∀ i,(J i).length<=i:=λi=>by grind
 have hR:wN l=J l.length:=by rw[hJ];rfl
 rw[hR];clear hJ hR;cbv;refine zW (σ:=Nat) (λi=>⟨[(0,.sl (λ_=>enc bc l)),(3,oV 3 1 ((J i).length)),(4,iV i)],[(3,aV 1 (enc ic (J i)))]⟩)
  (λi=>i<=l.length) (λi=>l.length-i) 0 (yU _) (.trans (.adoptT 3 1 3 rfl rfl) (.le ?_ ?_ rfl)) ?_
 {cbv;exact⟨lR,zZ rfl (by grind),lR,trivial⟩};{cbv;exact⟨zH (by rw[hJ0];rfl),trivial⟩};intro i hi;cbv;refine zE (λh5=>?_) (λh5=>?_);{have hlt:=uL h5;obtain⟨b,hb⟩:=zO hlt;have hs:=hJs i hlt;have hln:=hJl i;rw[show l.getD i false=b by grind] at hs;generalize hA:J i=A at *;cbv;refine yB hb tZ eT ?_;cbv;refine zP (λe=>?_) (λe=>?_);{rw[if_pos e] at hs;cbv;refine wU TU rfl rfl rfl (by rw[zA]) rfl ⟨by simp[zL,xE]⟩ (z5 oM (by simp[zL,zA] at *;exact om)) rfl ?_;cbv;refine⟨zC om om,i+1,(show i+1<=_ by omega),om,.le ?_ ?_ rfl⟩;{cbv;exact⟨lR,zZ rfl (by rw[hs,zA];simp[zL]),zB om,trivial⟩};{cbv;exact⟨zH (by rw[hs,<-xZ];rfl),trivial⟩}};{rw[if_neg (by grind),kN] at hs;cbv;refine⟨zC om om,i+1,(show i+1<=_ by omega),om,.le ?_ ?_ rfl⟩;{cbv;exact⟨lR,zZ rfl (by rw[hs]),zB om,trivial⟩};{cbv;exact⟨zH (by rw[hs]),trivial⟩}}};{have hi':=kU h5 hi;subst hi';generalize J l.length=A at *;cbv;refine cZ _ (.trans (Wk.sel _ [2] [3] rfl) (.frz 3 rfl rfl ?_ ?_)) rfl ?_;{cbv;exact⟨z8 (by simp[zA]),trivial⟩};{cbv};cbv;exact zS (by rw[xM,yW (by simp[zA])])}
def LZ:Pg.funcs[203]?=some Tryz.f203:=by rw[uZ];rfl
def sK1 (r:Row):zD 203 [rwv r] (mlv (mR [(r,1)])):=by
 refine aW LZ rfl rfl rfl rfl rfl ?_;have c1:=s32 1 (by decide) (by decide);rw[show (((1:Int):Rat))=(1:Rat) by rfl] at c1;have hr:mR [(r,1)]=[⟨r,zG 1⟩]:=rfl;generalize mR [(r,1)]=res at *;generalize zG 1=O at *;cbv;refine zM 5 (by cbv) ?_;cbv;refine dA c1 ?_;cbv
 (refine rC ?_;cbv)
 exact zS (by rw[hr];rfl)
def Rp (r:Row):Sound 203 [rwv r] [] [] (oV 100 7 1) [] (mao 100 (mR [(r,1)])):=by refine aW LZ rfl rfl rfl rfl rfl ?_;have c1:=s32 1 (by decide) (by decide);rw[show (((1:Int):Rat))=(1:Rat) by rfl] at c1;have hr:mR [(r,1)]=[⟨r,zG 1⟩]:=rfl;generalize mR [(r,1)]=res at *;generalize zG 1=O at *;subst hr;cbv;refine zM 2 (by cbv) ?_;cbv;refine dA c1 ?_;cbv;refine Px rfl ?_;cbv;refine mC (ps':=⟨[(2,oV 6 7 1)],[(6,aV 7 (enc mc [⟨r,O⟩]))]⟩) 6 (.le ?_ ?_ rfl) rfl rfl rfl ?_;{cbv;exact⟨zZ rfl rfl,trivial⟩};{cbv;exact⟨zH rfl,trivial⟩};{cbv;exact lR}
def Li (s:Scp)(kind unit:Int)(hq:s.q.sz (2^31))(hs:Dsz (2^32) s.path)(hv:s.q.valid=true):zD 254 [sv s,iV kind,iV unit] (bV (s.dcd kind unit)):=by
 refine sF Tryz.f254 ?_;have cf:∀ d,d∈s.path->zD 105 [qv s.q,dv d] (bV (d.fits s.q)):=λd h=>by have:=G5 s.q d hq (hs.sz d h);grind
 have hpl:=hs.len;generalize hr:s.dcd kind unit=r;have hr0:r=(s.path.drop 0).any (λd=>decide (d.k=kind)&&(decide (d.i=unit)&&d.fits s.q)):=hr.symm;obtain⟨ft,hft⟩:∃ ft:Dec->Bool,∀ d,ft d=d.fits s.q:=⟨_,λ_=>rfl⟩;simp only[<-hft] at cf hr0;obtain⟨P,hP⟩:∃ P:Dec->Bool,(λd=>decide (d.k=kind)&&(decide (d.i=unit)&&ft d))=P:=⟨_,rfl⟩;rw[hP] at hr0;have hPd:∀ d,P d=(decide (d.k=kind)&&(decide (d.i=unit)&&ft d)):=λd=>by grind
 clear hP hft hr hs hq hv;cbv;refine zW (σ:=Nat) (λi=>⟨[(1,iV kind),(2,iV unit),(3,.ptr 3 0),(7,iV i)],[(3,.box (sc s))]⟩) (λi=>i<=s.path.length/\r=(s.path.drop i).any P) (λi=>s.path.length-i) 0 ⟨by omega,hr0⟩ (wkZ) ?_;clear hr0;intro i hi;obtain⟨h1,h2⟩:=hi;cbv;refine zE (λh5=>?_) (λh5=>?_)
 ·have hlt:=uL h5;obtain⟨d,hd⟩:=zO hlt;have cv:=cf d (zX hd);rw[zU hd,Vu,hPd] at h2;generalize ft d=fd at *;generalize hrest:(s.path.drop (i+1)).any P=rest at *;cbv;refine zM 28 (by cbv) ?_;cbv;refine yB hd uW qN ?_;cbv;refine zQ (λe1=>?_) (λe1=>?_)
  rotate_left
  {rw[decide_eq_false e1,kK,s6] at h2;cbv;exact⟨zC om om,i+1,⟨om,by grind⟩,om,wkZ⟩};rw[decide_eq_true e1,yN] at h2;cbv;refine yB hd uW qN ?_;cbv;refine zQ (λe2=>?_) (λe2=>?_)
  rotate_left
  {rw[decide_eq_false e2,kK,s6] at h2;cbv;exact⟨zC om om,i+1,⟨om,by grind⟩,om,wkZ⟩};rw[decide_eq_true e2,yN] at h2;cbv;refine yB hd uW qN ?_;cbv;refine dA cv ?_;cbv;refine zP (λe3=>?_) (λe3=>?_)
  ·rw[e3,Vp] at h2;cbv
   (refine rC ?_;cbv)
   exact yH h2
  {rw[e3,s6] at h2;cbv;exact⟨zC om om,i+1,⟨om,by grind⟩,om,wkZ⟩}
 ·have he:=kU h5 h1;rw[he,wD] at h2;have h2':r=false:=h2;cbv
  (refine rC ?_;cbv)
  exact zK h2'
structure Usz (s:Scp):Prop where
 q:s.q.sz (2^31)
 p:Dsz (2^32) s.path
 l:Lsz (2^20) s.lems
 v:s.q.valid=true
def ZJ {s:Scp}{j:Int}(h:(s.best j).1≠0):∃ m,s.lems[(s.best j).1-1]?=some m/\s.vLo j=m.v.q:=by obtain⟨m,hm,_⟩:=kS (s:=s) (unit:=j) (.inl rfl) h;grind [Scp.vLo,qT]
def Xi {s:Scp}{j:Int}(h:(s.best j).2≠0):∃ m,s.lems[(s.best j).2-1]?=some m/\s.vHi j=m.v.q:=by obtain⟨m,hm,_⟩:=kS (s:=s) (unit:=j) (.inr rfl) h;grind [Scp.vHi,qT]
def PQ (s:Scp)(j:Int)(hs:Usz s):zD 204 [sv s,iV j] (.tup [rwv (s.offR j).1,bV ((s.offR j).2)]):=by
 refine sF Tryz.f204 ?_;have cb:=fN s j hs.l;have hll:=hs.l.len;have hss:=hs.l.sz;have cd:=Li s 2 j hs.q hs.p hs.v;have hv:=λh=>Xi (s:=s) (j:=j) h;obtain⟨R,hR⟩:=ex (s.offR j);have h1:s.dcd 2 j=true->R=(⟨10,j,0,0⟩,true):=λh=>by rw[<-hR];unfold Scp.offR;grind
 have h2:s.dcd 2 j=false->R=(⟨10,j,0,(s.best j).2⟩,decide (0<(s.best j).2)&&decide (z3 (s.vHi j)<=0)):=λh=>by rw[<-hR];unfold Scp.offR;grind
 rw[hR];obtain⟨R,b⟩:=R;generalize s.dcd 2 j=dd at *;generalize s.vHi j=x at *;generalize s.best j=B at *;obtain⟨b1,b2⟩:=B;dsimp only at *;obtain⟨⟨⟨gn,us,os⟩,⟨lo,hi,rows⟩,⟨ts,c1',c2',c3'⟩⟩,path,L⟩:=s;dsimp only at *;clear hR hs;cbv;refine cA cb ?_;cbv;refine cA cd ?_;cbv;refine zP (λe=>?_) (λe=>?_);{obtain⟨q1,q2⟩:=Yj (h1 e);subst q1 q2;cbv;exact rA};obtain⟨q1,q2⟩:=Yj (h2 e);subst q1 q2;cbv;refine zQ (λe1=>?_) (λe1=>?_)
 rotate_left
 ·cbv
  (refine rC ?_;cbv)
  exact⟨okA,zK (by simp;exact om),trivial⟩
 have e1':b2≠0:=by exact om
 obtain⟨m,g,hx⟩:=hv e1';have z:=hss m (zX g);have l2:=(xP.1 g).1;have csg:=s35 m.v (by have:=z.n;omega);rw[<-hx] at csg;generalize z3 x=sg at *;cbv;refine⟨zC om om,y6 g (by exact om) y0 xD ?_⟩;cbv;refine cA csg ?_;cbv
 (refine rC ?_;cbv)
 exact⟨okA,z4 (by simp;exact om),trivial⟩
def Lh (s:Scp)(j:Int)(hs:Usz s):zD 205 [sv s,iV j] (.tup [rwv (s.onR j).1,bV ((s.onR j).2)]):=by
 refine sF Tryz.f205 ?_;have cb:=fN s j hs.l;have hll:=hs.l.len;have hss:=hs.l.sz;have cd:=Li s 1 j hs.q hs.p hs.v;have hv:=λh=>ZJ (s:=s) (j:=j) h;obtain⟨R,hR⟩:=ex (s.onR j);have h1:s.dcd 1 j=true->R=(⟨8,j,0,0⟩,true):=λh=>by rw[<-hR];unfold Scp.onR;grind
 have h2:s.dcd 1 j=false->R=(⟨8,j,(s.best j).1,0⟩,decide (0<(s.best j).1)&&decide (0<=z3 (s.vLo j))):=λh=>by rw[<-hR];unfold Scp.onR;grind
 rw[hR];obtain⟨R,b⟩:=R;generalize s.dcd 1 j=dd at *;generalize s.vLo j=x at *;generalize s.best j=B at *;obtain⟨b1,b2⟩:=B;dsimp only at *;obtain⟨⟨⟨gn,us,os⟩,⟨lo,hi,rows⟩,⟨ts,c1',c2',c3'⟩⟩,path,L⟩:=s;dsimp only at *;clear hR hs;cbv;refine cA cb ?_;cbv;refine cA cd ?_;cbv;refine zP (λe=>?_) (λe=>?_);{obtain⟨q1,q2⟩:=Yj (h1 e);subst q1 q2;cbv;exact rA};obtain⟨q1,q2⟩:=Yj (h2 e);subst q1 q2;cbv;refine zQ (λe1=>?_) (λe1=>?_)
 rotate_left
 ·cbv
  (refine rC ?_;cbv)
  exact⟨okA,zK (by simp;exact om),trivial⟩
 have e1':b1≠0:=by exact om
 obtain⟨m,g,hx⟩:=hv e1';have z:=hss m (zX g);have l2:=(xP.1 g).1;have csg:=s35 m.v (by have:=z.n;omega);rw[<-hx] at csg;generalize z3 x=sg at *;cbv;refine⟨zC om om,y6 g (by exact om) y0 xD ?_⟩;cbv;refine cA csg ?_;cbv
 (refine rC ?_;cbv)
 exact⟨okA,z4 (by simp;exact om),trivial⟩
abbrev bdv (b:Bd) (h:Bool):PV:=.agg [bV b.1.neg,nat b.1.num,nat b.1.den,mlv (mR b.2),bV h]
def EO (s:Scp)(j:Int)(hs:Usz s):zD 172 [sv s,iV j] (bdv (s.leB j) true):=by
 refine sF Tryz.f172 ?_;have cb:=fN s j hs.l;have hll:=hs.l.len;have hss:=hs.l.sz;have hv:=λh=>ZJ (s:=s) (j:=j) h;have c5:=sK1 ⟨5,j,0,0⟩;have c6:=Rp ⟨6,j,0,0⟩;obtain⟨R,hR⟩:=ex (s.leB j);have h1:((s.best j).1=0\/z3 (s.vLo j)<=0)->R=(R0,[(⟨5,j,0,0⟩,1)]):=λh=>by rw[<-hR];unfold Scp.leB;grind
 have h2:¬((s.best j).1=0\/z3 (s.vLo j)<=0)->R=(zG (s.vLo j),[(⟨6,j,0,0⟩,1),(⟨11,j,(s.best j).1,0⟩,1)]):=λh=>by rw[<-hR];unfold Scp.leB;grind
 unfold bdv;rw[hR];obtain⟨V,P⟩:=R;dsimp only;generalize s.vLo j=x at *;generalize s.best j=B at *;obtain⟨b1,b2⟩:=B;dsimp only at *;have c11:=Rp ⟨11,j,b1,0⟩;obtain⟨M,hM⟩:=ex (mR P);obtain⟨M5,hM5⟩:=ex (mR [((⟨5,j,0,0⟩:Row),(1:Rat))]);obtain⟨M6,hM6⟩:=ex (mR [((⟨6,j,0,0⟩:Row),(1:Rat))]);obtain⟨M11,hM11⟩:=ex (mR [((⟨11,j,b1,0⟩:Row),(1:Rat))]);have k1:(b1=0\/z3 x<=0)->V=R0/\M=M5:=λh=>by grind
 have k2:¬(b1=0\/z3 x<=0)->V=zG x/\M=M6++M11:=λh=>by obtain⟨q1,q2⟩:=Yj (h2 h);exact⟨q1,by rw[<-hM,q2,<-hM6,<-hM11];rfl⟩
 have l6:M6.length=1:=by rw[<-hM6];rfl
 have l11:M11.length=1:=by rw[<-hM11];rfl
 simp only[hM,hM5,hM6,hM11] at *;clear h1 h2 hM hM5 hM6 hM11;obtain⟨⟨⟨gn,us,os⟩,⟨lo,hi,rows⟩,⟨ts,c1',c2',c3'⟩⟩,path,L⟩:=s;dsimp only at *;clear hR hs;cbv;refine cA cb ?_;cbv;refine zQ (λe1=>?_) (λe1=>?_);{obtain⟨q1,q2⟩:=k1 (.inl (by exact om));subst q1 q2;cbv;refine cA c5 ?_;cbv;exact rA};have e1':b1≠0:=by exact om
 obtain⟨m,g,hx⟩:=hv e1';have z:=hss m (zX g);have l2:=(xP.1 g).1;have csg:=s35 m.v (by have:=z.n;omega);have ccn:=s47 m.v (z.mono (by decide));rw[<-hx] at csg ccn;generalize z3 x=sg at *;generalize zG x=RX at *;cbv;refine⟨zC om om,y6 g (by exact om) y0 xD ?_⟩;cbv;refine cA csg ?_;cbv;refine zE (λe2=>?_) (λe2=>?_);{obtain⟨q1,q2⟩:=k1 (.inr e2);subst q1 q2;cbv;refine cA c5 ?_;cbv;exact rA};obtain⟨q1,q2⟩:=k2 (λh=>h.elim e1' e2);subst q1 q2;cbv;refine kA (λ_=>201) c6 ?_;cbv;refine kA (λ_=>202) c11 ?_;cbv;refine J5 kD rfl rfl rfl (by simp[zA,l6]) rfl rfl rfl (by grind [zA]) (wJ xN _) (z5 oM (by grind [zA])) rfl ?_;cbv;refine⟨zC om om,y6 g (by exact om) y0 xD ?_⟩;cbv;refine cA ccn ?_;cbv;refine cZ _ (.trans (Wk.sel _ [4] [4,39] rfl) (.frz 39 rfl rfl ?_ ?_)) rfl ?_;{cbv};{cbv;exact⟨⟨z8 (by simp),trivial⟩,trivial⟩};cbv;exact⟨lR,lR,lR,zS (by rw[xM,yW (by simp),xZ]),yH rfl,trivial⟩
def Lj (f:F)(v:Int)(hc:Cn f.ts)(hl:f.ts.length<2^38):zD 207 [fv f,iV v] (rv (zG (co f.ts v))):=by
 refine sF Tryz.f207 ?_;obtain⟨C,hC⟩:=ex (zG (co f.ts v));have h1:∀ t,t∈f.ts->t.1=v->zG t.2=C:=λt ht e=>by rw[<-hC,<-e,hc.co_mem ht]
 have h2:(∀ t,t∈f.ts->t.1≠v)->C=R0:=λh=>by rw[<-hC,tU h];exact u9
 have hln:(tR f.ts).length=f.ts.length:=w4 _;have hget:∀ (i:Nat) t,f.ts[i]?=some t->(tR f.ts)[i]?=some (t.1,zG t.2):=λi t h=>by simp[tR,uY,h]
 rw[hC];obtain⟨ts,c⟩:=f;dsimp only [fv,fA] at *;generalize tR ts=T at *;generalize zG c=K at *;clear hc hC;cbv;refine zW (σ:=Nat) (λi=>⟨[(1,iV v),(2,.ptr 2 0),(4,.ptr 4 0),(5,iV i)],[(2,.box [tsv T,bV K.neg,nat K.num,nat K.den]),(4,.box [.ff,.nil,.nil])]⟩)
  (λi=>i<=ts.length/\∀ k t,k<i->ts[k]?=some t->t.1≠v) (λi=>ts.length-i) 0 ⟨yU _,λk t h=>absurd h oM⟩ (wkZ) ?_
 intro i hi;obtain⟨g1,g2⟩:=hi;cbv;refine zE (λh5=>?_) (λh5=>?_)
 ·(rw[zA,hln] at h5;have hlt:i<ts.length:=by exact om);obtain⟨t,ht⟩:=zO hlt
  have hT:=hget i t ht;obtain⟨tv,tq'⟩:=t;have hk:=h1 _ (zX ht);dsimp only at hk hT;generalize zG tq'=Q at *;cbv;refine yB hT wG wE ?_;cbv;refine zE (λe=>?_) (λe=>?_);{have:=hk e;subst this;cbv;refine yB hT wG wE ?_;cbv;exact rA};{cbv;exact⟨zC om om,i+1,⟨om,λk t hk' hkt=>by grind⟩,om,wkZ⟩}
 ·(have hi:i=ts.length:=by rw[zA,hln] at h5;exact om);have:=h2 λt ht=>by obtain⟨k,hk,rfl⟩:=List.getElem_of_mem ht;exact g2 k _ oM (j2 hk)
  subst this;cbv;exact rA
def RU {f:F}{k n:Nat}(hc:Cn f.ts)(h:f.fl k n)(hk:1<=k)(v:Int):F.fl ⟨xK v (-(co f.ts v)) false f.ts,f.c⟩ k (n+1):=by refine⟨λt ht=>?_,h.c,?_⟩;{have hn:=(Cn.plus (v:=v) (q:=-(co f.ts v)) hc).n t ht;have h1:=(Cn.plus (v:=v) (q:=-(co f.ts v)) hc).co_mem ht;rw[Zv _ hc] at h1;by_cases e:v=t.1;{grind};{rw[if_neg e] at h1;rw[<-h1,Rat.add_zero];exact Q7 hc h.t hk t.1}};{have:=lD v (-(co f.ts v)) false f.ts;have:=h.len;grind}
def Oc (f g:F)(v:Int){k n k' n':Nat}(hc:Cn f.ts)(hg:Cn g.ts)(h:f.fl k n)(h':g.fl k' n')(h1:1<=k)(hk:k+k'<=2^25)(hn:n<=2^34)(hn':n'<=2^34):zD 210 [fv f,iV v,fv g] (fv (f.subst v g)):=by refine sF Tryz.f210 ?_;have hfc:=Q7 hc h.t h1 v;have c1:=Lj f v hc (by have:=h.len;omega);have c2:=C4 (zG (co f.ts v)) ((zT hfc).mono oM);rw[zV] at c2;have c3:=PO f.ts (zG f.c) v (zG (-(co f.ts v))) ⟨by have:=h.len;omega,λt ht=>(h.t t ht).mono oM⟩ ((zT (qE hfc)).mono oM);rw[zV] at c3;have c4:=fO (q:=co f.ts v) h' hfc oM oM oM;have c5:=G6 (f:=⟨xK v (-(co f.ts v)) false f.ts,f.c⟩) (Cn.plus hc) (Cn.nil.mrg hg) (RU hc h h1 v) (h'.scale hfc) oM oM oM oM;have hs:f.subst v g=F.add ⟨xK v (-(co f.ts v)) false f.ts,f.c⟩ (g.scale (co f.ts v)):=rfl;rw[<-hs] at c5;simp only[fv] at *;generalize fA (f.subst v g)=W at *;generalize fA (g.scale (co f.ts v))=Y at *;rw[show fA ⟨xK v (-(co f.ts v)) false f.ts,f.c⟩=⟨tR (xK v (-(co f.ts v)) false f.ts),zG f.c⟩ from rfl] at c5;generalize tR (xK v (-(co f.ts v)) false f.ts)=Z at *;generalize zG (-(co f.ts v))=NC at *;generalize zG (co f.ts v)=C at *;rw[show fA f=⟨tR f.ts,zG f.c⟩ from rfl] at *;generalize tR f.ts=T at *;generalize zG f.c=K at *;generalize fA g=G at *;clear hs hfc;cbv;refine cA c1 ?_;cbv;refine zM 9 (by cbv) ?_;cbv;refine dA c2 ?_;cbv;refine dA c3 ?_;cbv;refine dA c4 ?_;cbv;refine dA c5 ?_;cbv;exact rA
def Mk (x y:R)(hx:x.sz (2^30))(hy:y.sz (2^30)):zD 255 [rv x,rv y] (bV (iU x.q y.q)):=by
 refine sF Tryz.f255 ?_;have c1:=s35 x (by have:=hx.n;omega);have c2:=s35 y (by have:=hy.n;omega);have h:iU x.q y.q=(decide (z3 x.q<0)&&decide (0<z3 y.q)):=rfl;generalize iU x.q y.q=b at *;generalize z3 x.q=a1 at *;generalize z3 y.q=a2 at *;obtain⟨x1,x2,x3⟩:=x;obtain⟨y1,y2,y3⟩:=y
 (try dsimp only at *)
 cbv;refine cA c1 ?_;cbv;refine zQ (λe=>?_) (λe=>?_)
 ·rw[decide_eq_true e,yN] at h;cbv;refine cA c2 ?_;cbv
  (refine rC ?_;cbv)
  exact z4 h.symm
 ·rw[decide_eq_false e,kK] at h;cbv
  (refine rC ?_;cbv)
  exact zK h
def Lg (x y:R)(hx:x.sz (2^31))(hy:y.sz (2^31))(h0:y.q≠0):zD 256 [rv x,rv y] (rv (zG (x.q/y.q))):=by refine sF Tryz.f256 ?_;have c1:=Ry x y hx hy h0;generalize zG (x.q/y.q)=W at *;obtain⟨x1,x2,x3⟩:=x;obtain⟨y1,y2,y3⟩:=y;clear h0;cbv;refine cA c1 ?_;cbv;exact rA
def Lf (x y:R)(hx:x.sz (2^28))(hy:y.sz (2^28)):zD 208 [rv x,rv y] (iV (if aX x.q y.q=true then 1 else 0)):=by
 refine sF Tryz.f208 ?_;have c1:=Mk x y (hx.mono (by decide)) (hy.mono (by decide));have c2:=s44 x y (hx.mono (by decide)) (hy.mono (by decide));have c3:=s35 (zG (x.q+y.q)) (by have:=(zT (uK (hx.fits (by decide)) (hy.fits (by decide)))).n;omega);rw[zV] at c3;have h:aX x.q y.q=(iU x.q y.q&&decide (0<z3 (x.q+y.q))):=rfl;generalize aX x.q y.q=b at *;generalize iU x.q y.q=a1 at *;generalize z3 (x.q+y.q)=a2 at *;generalize zG (x.q+y.q)=W at *;obtain⟨x1,x2,x3⟩:=x;obtain⟨y1,y2,y3⟩:=y
 (try dsimp only at *)
 obtain⟨r,hr⟩:∃ r:Int,(if b=true then 1 else 0)=r:=⟨_,rfl⟩;rw[hr];cbv;refine cA c1 ?_;cbv;refine yA (λe=>?_) (λe=>?_)
 ·rw[e,yN] at h;cbv;refine cA c2 ?_;cbv;refine cA c3 ?_;cbv;refine zE (λe2=>?_) (λe2=>?_)
  ·rw[h,decide_eq_true e2,if_pos rfl] at hr;cbv
   (refine rC ?_;cbv)
   exact zB hr
  ·rw[h,decide_eq_false e2,if_neg (by decide)] at hr;cbv
   (refine rC ?_;cbv)
   exact zB hr
 ·rw[h,e,kK,if_neg (by decide)] at hr;cbv
  (refine rC ?_;cbv)
  exact zB hr
def oE {x y:Rat}(h:iU x y=true):y-x≠0/\x<0/\0<y:=by unfold iU at h;simp only[yK,decide_eq_true_eq] at h;grind [tF,cJ]
def Oe (x y:R)(hx:x.sz (2^28))(hy:y.sz (2^28))(hu:iU x.q y.q=true):zD 257 [rv x,rv y] (rv (zG (-(x.q*y.q)/(y.q-x.q)))):=by
 refine sF Tryz.f257 ?_;have fx:=hx.fits (by decide);have fy:=hy.fits (by decide);have c1:=Mk x y (hx.mono (by decide)) (hy.mono (by decide));have c2:=s77 x y (hx.mono (by decide)) (hy.mono (by decide));have c3:=C4 (zG (x.q*y.q)) ((zT (yY fx fy)).mono (by decide));have c4:=s93 y x (hy.mono (by decide)) (hx.mono (by decide));have c5:=Lg (zG (-(x.q*y.q))) (zG (y.q-x.q)) ((zT (qE (yY fx fy))).mono (by decide)) ((zT (vC fy fx)).mono (by decide)) (by rw[zV];exact (oE hu).1);simp only[zV] at c3 c5;rw[hu] at c1;generalize zG (-(x.q*y.q)/(y.q-x.q))=W at *;generalize zG (-(x.q*y.q))=W1 at *;generalize zG (x.q*y.q)=W2 at *;generalize zG (y.q-x.q)=W3 at *;obtain⟨x1,x2,x3⟩:=x;obtain⟨y1,y2,y3⟩:=y
 (try dsimp only at *)
 clear hu fx fy;cbv;refine cA c1 ?_;cbv;refine dY rfl ?_;cbv;refine zM 8 (by cbv) ?_;cbv;refine dA c2 ?_;cbv;refine dA c3 ?_;cbv;refine dA c4 ?_;cbv;refine dA c5 ?_;cbv;exact rA
def Od (x y:R)(hx:x.sz (2^28))(hy:y.sz (2^28))(hu:iU x.q y.q=true):zD 209 [rv x,rv y] (.tup [iV (if aX x.q y.q=true then 1 else 0),rv (zG (y.q/(y.q-x.q))),rv (zG (-(x.q*y.q)/(y.q-x.q))),iV 0]):=by
 refine sF Tryz.f209 ?_;have fx:=hx.fits (by decide);have fy:=hy.fits (by decide);have c1:=Mk x y (hx.mono (by decide)) (hy.mono (by decide));have c2:=Lf x y hx hy;have c3:=Oe x y hx hy hu;have c4:=s93 y x (hy.mono (by decide)) (hx.mono (by decide));have c5:=Lg y (zG (y.q-x.q)) (hy.mono (by decide)) ((zT (vC fy fx)).mono (by decide)) (by rw[zV];exact (oE hu).1);simp only[zV] at c5;rw[hu] at c1;generalize zG (-(x.q*y.q)/(y.q-x.q))=W at *;generalize zG (y.q/(y.q-x.q))=W1 at *;generalize zG (y.q-x.q)=W3 at *;obtain⟨r,hr⟩:∃ r:Int,(if aX x.q y.q=true then 1 else 0)=r:=⟨_,rfl⟩;rw[hr];obtain⟨x1,x2,x3⟩:=x;obtain⟨y1,y2,y3⟩:=y
 (try dsimp only at *)
 clear hu fx fy;cbv;refine cA c1 ?_;cbv;refine dY rfl ?_;cbv;refine zM 11 (by cbv) ?_;cbv;refine dA c2 ?_;cbv;refine dA c4 ?_;cbv;refine dA c5 ?_;cbv;refine dA c3 ?_;cbv
 (refine rC ?_;cbv)
 exact⟨zB hr,okA,okA,lR,trivial⟩
def nX {q:Qry}(h:q.valid=true):(q.r.lo.length:Int)=q.g.n/\(q.r.hi.length:Int)=q.g.n/\1<=q.g.n/\q.g.n<=256/\q.g.us.length<=1024:=by unfold Qry.valid Reg.valid Grp.valid at h;grind
def Pu (a b:Rat):-1<=wK a b/\wK a b<=1:=by grind [wK]
def ES (s:Scp)(i:Int)(up:Bool)(hs:Usz s)(hz:s.q.sz (2^20))(hp:Dsz (2^20) s.path)(hi:0<=i)(hi2:i<s.q.g.n):zD 170 [sv s,iV i,bV up] (bdv (s.inB i up) true):=by
 refine sF Tryz.f170 ?_;obtain⟨v1,v2,v3,v4,v5⟩:=nX hs.v;have hpl:=hp.len;have c1:=sK1 ⟨1,i,0,0⟩;have c2:=sK1 ⟨2,i,0,0⟩;have c4:=λk:Nat=>sK1 ⟨4,k,0,0⟩;have cf:∀ d,d∈s.path->zD 105 [qv s.q,dv d] (bV (d.fits s.q)):=λd h=>by have:=G5 s.q d hs.q ((hp.sz d h).mono (by decide));rw[hs.v,yN] at this;omega
 have cc:∀ (d:Dec) (x:R),d∈s.path->x.sz (2^20)->zD 48 [rv d.x,rv x] (iV (wK d.x.q x.q)):=λd x h h'=>s42 d.x x ((hp.sz d h).mono (by decide)) (h'.mono (by decide));have hpz:=hp.sz;obtain⟨ii,hii⟩:∃ ii:Nat,i=ii:=⟨i.toNat,by omega⟩;obtain⟨xl,hxl⟩:=zO (l:=s.q.r.lo) (i:=ii) oM;obtain⟨xh,hxh⟩:=zO (l:=s.q.r.hi) (i:=ii) oM;have zl:=hz.r.lo.sz xl (zX hxl);have zh:=hz.r.hi.sz xh (zX hxh);obtain⟨G,hG⟩:=ex (inG s.q up i);obtain⟨KD,hKD⟩:∃ K:Int,(if up=true then 4 else 3)=K:=⟨_,rfl⟩;obtain⟨SG,hSG⟩:∃ K:Int,(if up=true then -1 else 1)=K:=⟨_,rfl⟩;have hn:∀ k b,G k [] b=b:=λk b=>by rw[<-hG];rfl
 have hc:∀ k d r b,G k (d::r) b=G (k+1) r (if d.k=KD/\d.i=i/\d.fits s.q=true/\0<SG*wK d.x.q b.1.q then (d.x,[(⟨4,k,0,0⟩,1)]) else b):=λk d r b=>by rw[<-hG,<-hKD,<-hSG];rfl
 have hsg:SG=1\/SG=-1:=by omega
 have hm:∀ a b,-1<=SG*wK a b/\SG*wK a b<=1:=λa b=>by have:=Pu a b;grind
 obtain⟨res,hres⟩:=ex (s.inB i up);have h0:G 0 s.path (if up=true then (xh,[(⟨2,i,0,0⟩,1)]) else (xl,[(⟨1,i,0,0⟩,1)]))=res:=by rw[<-hres,<-hG];grind [Scp.inB,Int.toNat_natCast]
 rw[hres];obtain⟨ft,hft⟩:∃ ft:Dec->Bool,∀ d,ft d=d.fits s.q:=⟨_,λ_=>rfl⟩;simp only[<-hft] at cf hc;obtain⟨rV,rP⟩:=res;obtain⟨⟨⟨gn,us,os⟩,⟨lo,hi',rows⟩,⟨ts,c1',c2',c3'⟩⟩,path,L⟩:=s
 (try dsimp only at *)
 have go:∀ (x:R) (p:List (Row×Rat)),x.sz (2^20)->G 0 path (x,p)=(rV,rP)->0=0:=λ_ _ _ _=>rfl;clear go hft hres hG hs hz hp hsg;cbv;refine kJ 10 (by cbv) (by cbv) ?_;cbv;refine y6 hxl hii vA uF ?_;cbv;refine dA c1 ?_;cbv;refine lT (σ:=Bd) (λb=>⟨[(1,iV i),(3,.ptr 3 0),(6,.ptr 6 0),(8,.ptr 8 0),(9,iV KD),(10,iV SG)],[(3,.box (sc ⟨⟨⟨gn,us,os⟩,⟨lo,hi',rows⟩,⟨ts,c1',c2',c3'⟩⟩,path,L⟩)),(6,.box [.ff,.nil,.nil,.nil,.ff]),(8,.box [bV b.1.neg,nat b.1.num,nat b.1.den,mlv (mR b.2),.tt])]⟩)
  (λb=>b.1.sz (2^20)/\G 0 path b=(rV,rP)) (λe=>?_) (λe=>?_) (λb hb=>?_)
 {rw[if_pos e] at h0 hKD hSG;subst hKD hSG;cbv;refine zM 9 (by cbv) ?_;cbv;refine y6 hxh hii vA uF ?_;cbv;refine dA c2 ?_;cbv;exact⟨(xh,[(⟨2,i,0,0⟩,1)]),⟨zh,h0⟩,wkZ⟩};{rw[if_neg (by rw[e];decide)] at h0 hKD hSG;subst hKD hSG;cbv;exact⟨(xl,[(⟨1,i,0,0⟩,1)]),⟨zl,h0⟩,wkZ⟩};clear h0 hKD hSG c1 c2;obtain⟨hb1,hb2⟩:=hb;obtain⟨bvQ,bP⟩:=b;dsimp only at hb1 hb2;cbv;refine zW (σ:=Nat×Bd) (λst=>⟨[(1,iV i),(3,.ptr 3 0),(6,.ptr 6 0),(8,.ptr 8 0),(9,iV KD),(10,iV SG),(11,iV st.1)],[(3,.box (sc ⟨⟨⟨gn,us,os⟩,⟨lo,hi',rows⟩,⟨ts,c1',c2',c3'⟩⟩,path,L⟩)),(6,.box [.ff,.nil,.nil,.nil,.ff]),(8,.box [bV st.2.1.neg,nat st.2.1.num,nat st.2.1.den,mlv (mR st.2.2),.tt])]⟩)
  (λst=>st.1<=path.length/\st.2.1.sz (2^20)/\G st.1 (path.drop st.1) st.2=(rV,rP)) (λst=>path.length-st.1) (0,bvQ,bP) ⟨yU _,hb1,hb2⟩ (wkZ) ?_
 clear hb1 hb2;intro st hst;obtain⟨k,cV,cP⟩:=st;obtain⟨h1,h2,h3⟩:=hst;dsimp only at h1 h2 h3;cbv;refine zE (λh5=>?_) (λh5=>?_)
 ·have hlt:=uL h5;obtain⟨d,hd⟩:=zO hlt;have hdm:=zX hd;have cv:=cf d hdm;have cx:=cc d cV hdm h2;have zd:=hpz d hdm;have hmm:=hm d.x.q cV.q;rw[zU hd,hc] at h3;have ck:=c4 k;generalize ft d=fd at *;generalize wK d.x.q cV.q=cm at *;clear cf cc hc hn hm;cbv;refine yB hd uW qN ?_;cbv;refine zQ (λe1=>?_) (λe1=>?_)
  rotate_left
  {rw[if_neg (λh=>e1 h.1)] at h3;cbv;exact⟨zC om om,(k+1,cV,cP),⟨om,h2,h3⟩,om,wkZ⟩};cbv;refine zQ (λe2=>?_) (λe2=>?_)
  rotate_left
  {rw[if_neg (λh=>e2 h.2.1)] at h3;cbv;exact⟨zC om om,(k+1,cV,cP),⟨om,h2,h3⟩,om,wkZ⟩};cbv;refine cA cv ?_;cbv;refine yA (λe3=>?_) (λe3=>?_)
  rotate_left
  {rw[if_neg (λh=>by rw[h.2.2.1] at e3;cases e3)] at h3;cbv;exact⟨zC om om,(k+1,cV,cP),⟨om,h2,h3⟩,om,wkZ⟩};cbv;refine cA cx ?_;cbv;refine⟨zC (by exact om) (by exact om),?_⟩;cbv;refine zE (λe4=>?_) (λe4=>?_)
  rotate_left
  {rw[if_neg (λh=>e4 h.2.2.2)] at h3;cbv;exact⟨zC om om,(k+1,cV,cP),⟨om,h2,h3⟩,om,wkZ⟩};rw[if_pos ⟨e1,e2,e3,e4⟩] at h3;cbv;refine zM 6 (by cbv) ?_;cbv;refine dA ck ?_;cbv;exact⟨zC om om,(k+1,d.x,[(⟨4,k,0,0⟩,1)]),⟨om,zd,h3⟩,om,wkZ⟩
 {have hk:k=path.length:=kU h5 h1;rw[hk,wD,hn] at h3;cases h3;cbv;exact rA}
def EK (s:Scp)(j:Int)(hs:Usz s):zD 171 [sv s,iV j] (bdv ((s.moB j).getD (R0,[])) (s.moB j).isSome):=by
 refine sF Tryz.f171 ?_;unfold bdv;have cof:=PQ s j hs;have con:=Lh s j hs;have cb:=fN s j hs.l;have hll:=hs.l.len;have hss:=hs.l.sz;have hv1:=λh=>ZJ (s:=s) (j:=j) h;have hv2:=λh=>Xi (s:=s) (j:=j) h;have c1:=s32 1 (by decide) (by decide);rw[show (((1:Int):Rat))=(1:Rat) by rfl] at c1;have coff:(s.offR j).2=false->0<(s.best j).2->0<z3 (s.vHi j):=λh h'=>by unfold Scp.offR at h;grind
 have conn:(s.onR j).2=false->0<(s.best j).1->z3 (s.vLo j)<0:=λh h'=>by unfold Scp.onR at h;grind
 have hm:s.moB j=if (s.offR j).2=true then some (R0,[((s.offR j).1,1)])
  else if (s.best j).2=0\/((s.onR j).2=false/\(s.best j).1=0) then none
  else if (s.onR j).2=true then some (zG (s.vHi j),[((s.onR j).1,1),(⟨12,j,0,(s.best j).2⟩,1)])
  else some (zG (s.vHi j),[(⟨12,j,0,(s.best j).2⟩,(1/(s.vHi j-s.vLo j))*s.vHi j),(⟨13,j,(s.best j).1,(s.best j).2⟩,1/(s.vHi j-s.vLo j))]):=rfl
 generalize s.moB j=o at *;generalize s.vLo j=x at *;generalize s.vHi j=y at *;generalize s.best j=B at *;obtain⟨b1,b2⟩:=B;generalize s.offR j=O1 at *;obtain⟨rof,bof⟩:=O1;generalize s.onR j=O2 at *;obtain⟨ron,bon⟩:=O2
 (try dsimp only at *)
 have co:=sK1 rof;have ca:=Rp ron;have cb2:=Rp ⟨12,j,0,b2⟩;obtain⟨⟨⟨gn,us,os⟩,⟨lo,hi,rows⟩,⟨ts,c1',c2',c3'⟩⟩,path,L⟩:=s
 (try dsimp only at *)
 obtain⟨V,hV⟩:=ex ((o.getD (R0,[])).1);obtain⟨M,hM⟩:=ex (mR (o.getD (R0,[])).2);obtain⟨b,hb⟩:=ex o.isSome;rw[hV,hM,hb];obtain⟨Mo,hMo⟩:=ex (mR [(rof,(1:Rat))]);obtain⟨Ma,hMa⟩:=ex (mR [(ron,(1:Rat))]);obtain⟨Mb,hMb⟩:=ex (mR [((⟨12,j,0,b2⟩:Row),(1:Rat))]);have la:Ma.length=1:=by rw[<-hMa];rfl
 have lb:Mb.length=1:=by rw[<-hMb];rfl
 have k1:bof=true->V=R0/\M=Mo/\b=true:=λh=>by grind
 have k2:bof=false->(b2=0\/(bon=false/\b1=0))->V=R0/\M=[]/\b=false:=λh h'=>by rw[<-hV,<-hM,<-hb,hm,if_neg (by grind),if_pos h'];exact⟨rfl,rfl,rfl⟩
 have k3:bof=false->¬(b2=0\/(bon=false/\b1=0))->bon=true->V=zG y/\M=Ma++Mb/\b=true:=λh h' h''=>by rw[<-hV,<-hM,<-hb,hm,if_neg (by grind),if_neg h',if_pos h'',<-hMa,<-hMb];exact⟨rfl,rfl,rfl⟩
 have k4:bof=false->¬(b2=0\/(bon=false/\b1=0))->bon=false->V=zG y/\M=[⟨⟨12,j,0,b2⟩,zG (1/(y-x)*y)⟩,⟨⟨13,j,b1,b2⟩,zG (1/(y-x))⟩]/\b=true:=λh h' h''=>by rw[<-hV,<-hM,<-hb,hm,if_neg (by grind),if_neg h',if_neg (by grind)];exact⟨rfl,rfl,rfl⟩
 rw[hMo] at co;rw[hMa] at ca;rw[hMb] at cb2;clear hm hV hM hb hMo hMa hMb hs;cbv;refine cA cof ?_;cbv;refine zP (λe=>?_) (λe=>?_);{obtain⟨q1,q2,q3⟩:=k1 e;subst q1 q2 q3;cbv;refine cA co ?_;cbv;exact rA};cbv;refine cA cb ?_;cbv;refine cA con ?_;cbv;refine zQ (λe1=>?_) (λe1=>?_);{obtain⟨q1,q2,q3⟩:=k2 e (.inl (by exact om));subst q1 q2 q3;cbv;exact rA};have e1':b2≠0:=by exact om
 obtain⟨m2,g2,hy⟩:=hv2 e1';have z2:=hss m2 (zX g2);have l2:=(xP.1 g2).1;have ccn:=s47 m2.v (z2.mono (by decide));rw[<-hy] at ccn;cbv;refine yA (λe2=>?_) (λe2=>?_)
 ·obtain⟨q1,q2,q3⟩:=k3 e (λh=>h.elim e1' (λh=>by rw[h.1] at e2;cases e2)) e2;generalize zG y=RY at *;subst q1 q2 q3;cbv;refine⟨zC om om,y6 g2 (by exact om) y0 xD ?_⟩;cbv;refine zP (λe3=>?_) (λe3=>by rw[e2] at e3;cases e3);cbv;refine rN (σ:=Unit) (λ_=>⟨[(4,.ptr 4 0)],[(4,.box [bV V.neg,nat V.num,nat V.den,oV 66 7 ((enc mc Ma).length+(enc mc Mb).length),.tt]),(66,aV 7 (enc mc Ma++enc mc Mb))]⟩) (λ_=>True) (.refl _) (by cbv) ?_ ?_
  ·cbv
   repeat' first
    |exact trivial
    |exact⟨(),trivial,wkZ⟩
    |(refine yP rfl okA ccn rfl ?_;cbv)
    |(refine kA (λ_=>201) ca ?_;cbv)| (refine kA (λ_=>202) cb2 ?_;cbv)
    |(refine J5 kD rfl rfl rfl (by simp[zA,la]) rfl rfl rfl (by simp[zA,lb]) (wJ xN _) (z5 (by simp[zA,la,lb]) (by simp[zA,la,lb])) rfl ?_;cbv)
    |apply And.intro
  {intro _ _;cbv;refine cZ _ (.frz 66 rfl rfl ?_ ?_) rfl ?_;{cbv};{cbv;exact⟨⟨z8 (by simp[zA,la,lb]),trivial⟩,trivial⟩};cbv;exact⟨lR,lR,lR,zS (by rw[xM,yW (by simp[zA,la,lb]),xZ]),yH rfl,trivial⟩}
 cbv;refine zE (λe3=>?_) (λe3=>?_);{obtain⟨q1,q2,q3⟩:=k2 e (.inr ⟨e2,by exact om⟩);subst q1 q2 q3;cbv;exact rA};have e3':b1≠0:=by exact om
 obtain⟨m1,g1,hx⟩:=hv1 e3';have z1:=hss m1 (zX g1);have l1:=(xP.1 g1).1;have hu:iU x y=true:=by unfold iU;rw[decide_eq_true (conn e2 oM),decide_eq_true (coff e oM)];rfl
 obtain⟨hne,_,_⟩:=oE hu;have f1:=z1.fits (by decide);have f2:=z2.fits (by decide);have csb:=s93 m2.v m1.v (z2.mono (by decide)) (z1.mono (by decide));rw[<-hx,<-hy] at csb;rw[<-hx] at f1;rw[<-hy] at f2;have fd:=vC f2 f1;have fi:Fits (2^22) (1/(y-x)):=by rw[s8,Rat.one_mul];exact (bD fd).mono (by decide)
 have cdv:=Ry (zG 1) (zG (y-x)) ((zT fits_one).mono (by decide)) ((zT fd).mono (by decide)) (by rw[zV];exact hne);simp only[zV] at cdv;have cml:=s77 (zG (1/(y-x))) m2.v ((zT fi).mono (by decide)) (z2.mono (by decide));rw[zV,<-hy] at cml;obtain⟨q1,q2,q3⟩:=k4 e (λh=>h.elim e1' (λh=>e3' h.2)) e2;generalize zG (1/(y-x)*y)=W at *;generalize zG (1/(y-x))=WI at *;generalize zG (y-x)=WD at *;generalize zG y=RY at *;generalize zG 1=R1 at *;subst q1 q2 q3;clear coff conn hv1 hv2 k1 k2 k3 k4 fi fd f1 f2;cbv;refine⟨zC om om,y6 g2 (by exact om) y0 xD ?_⟩;cbv;refine zP (λe4=>by rw[e2] at e4;cases e4) (λe4=>?_);cbv;refine vD 16 [(15,12)] (by cbv) (by cbv) (by cbv) ?_;cbv;refine dA c1 ?_;cbv;refine⟨zC om om,y6 g1 (by exact om) y0 xD ?_⟩;cbv;refine dA csb ?_;cbv;refine dA cdv ?_;cbv;refine zM 12 (by cbv) ?_;cbv;refine dA ccn ?_;cbv;refine dA cml ?_;cbv;exact rA
def EH (s:Scp)(v:Int)(up:Bool)(hs:Usz s)(hz:s.q.sz (2^20))(hp:Dsz (2^20) s.path)(hv:0<=v)(hv2:v<s.q.g.vars):zD 111 [sv s,iV v,bV up] (bdv ((s.ofB v up).getD (R0,[])) (s.ofB v up).isSome):=by
 refine sF Tryz.f111 ?_;obtain⟨v1,v2,v3,v4,v5⟩:=nX hs.v;have cv:=oK s.q (hz.mono (by decide));have cvr:=oO s.q.g (hz.g.mono (by decide));have hgv:s.q.g.valid=true:=by have:=hs.v;unfold Qry.valid at this;grind
 rw[hs.v] at cv;rw[if_pos hgv] at cvr;have cin:=λh=>ES s v up hs hz hp hv h;have cmo:=EK s (v-s.q.g.n) hs;have cle:=EO s (v-s.q.g.n) hs;simp only[bdv] at *;have ho:s.ofB v up=if v<s.q.g.n then some (s.inB v up) else if up=true then s.moB (v-s.q.g.n) else some (s.leB (v-s.q.g.n)):=rfl
 have hvars:s.q.g.vars=s.q.g.n+s.q.g.us.length:=rfl;generalize s.q.g.vars=N at *;generalize s.inB v up=b1 at *;generalize s.moB (v-s.q.g.n)=o2 at *;generalize s.leB (v-s.q.g.n)=b3 at *;generalize s.ofB v up=o at *;obtain⟨V,hV⟩:=ex ((o.getD (R0,[])).1);obtain⟨M,hM⟩:=ex (mR (o.getD (R0,[])).2);obtain⟨b,hb⟩:=ex o.isSome;obtain⟨V2,hV2⟩:=ex ((o2.getD (R0,[])).1);obtain⟨M2,hM2⟩:=ex (mR (o2.getD (R0,[])).2);obtain⟨bb2,hb2⟩:=ex o2.isSome;rw[hV,hM,hb];rw[hV2,hM2,hb2] at cmo;have k1:v<s.q.g.n->V=b1.1/\M=mR b1.2/\b=true:=λh=>by grind
 have k2:¬v<s.q.g.n->up=true->V=V2/\M=M2/\b=bb2:=λh h'=>by grind
 have k3:¬v<s.q.g.n->up=false->V=b3.1/\M=mR b3.2/\b=true:=λh h'=>by grind
 obtain⟨B1,P1⟩:=b1;obtain⟨B3,P3⟩:=b3;obtain⟨⟨⟨gn,us,os⟩,⟨lo,hi',rows⟩,⟨ts,c1',c2',c3'⟩⟩,path,L⟩:=s
 (try dsimp only at *)
 generalize mR P1=M1 at *;generalize mR P3=M3 at *;clear ho hV hM hb hV2 hM2 hb2 hs hz hp hgv;cbv;refine cA cv ?_;cbv;refine rR rfl ?_;cbv;refine yC (by exact om) ?_;cbv;refine cA cvr ?_;cbv;refine yE (by exact om) ?_;cbv;refine zE (λe=>?_) (λe=>?_);{obtain⟨q1,q2,q3⟩:=k1 e;subst q1 q2 q3;have c:=cin e;cbv;refine cA c ?_;cbv;exact rA};cbv;refine zP (λe2=>?_) (λe2=>?_);{obtain⟨q1,q2,q3⟩:=k2 e e2;subst q1 q2 q3;cbv;refine⟨zC (by exact om) (by exact om),?_⟩;cbv;refine cA cmo ?_;cbv;exact rA};{obtain⟨q1,q2,q3⟩:=k3 e e2;subst q1 q2 q3;cbv;refine⟨zC (by exact om) (by exact om),?_⟩;cbv;refine cA cle ?_;cbv;exact rA}
structure BoxOk (s:Scp) (f:F):Prop where
 vd:(fA f).valid s.q.g.vars=true
 v:∀ t,t∈f.ts->0<=t.1/\t.1<s.q.g.vars
 fl:f.fl (2^26) (2^30)
 pre:∀ i a l,s.boxL (f.ts.take i) f.c []=some (a,l)->Fits (2^29) a/\(∀ t,t∈l->Fits (2^28) t.2)/\l.length<=2^36
 bd:∀ t,t∈f.ts->∀ b,s.ofB t.1 (decide (z3 t.2<0))=some b->b.1.sz (2^28)/\(∀ x,x∈b.2->Fits (2^27) x.2)/\b.2.length<=2
def UU {s:Scp}{t:Int×Rat}{b:Bd}(ht:s.ofB t.1 (decide (z3 t.2<0))=some b):∀ {ts:List (Int×Rat)} {a a':Rat} {l l':List (Row×Rat)},s.boxL ts a l=some (a',l')->s.boxL (ts++[t]) a l=some (a'+t.2*b.1.q,xU l' b.2 (vP t.2))
 |[],a,a',l,l',h=>by cases h;rw[Hc];unfold Scp.boxL;rw[ht];rfl
 |x::r,a,a',l,l',h=>by
  rw[Yh];unfold Scp.boxL at h ⊢;cases hx:s.ofB x.1 (decide (z3 x.2<0)) with
  |none=>grind| some g =>
   rw[hx] at h;exact UU ht h
def UV {s:Scp}{t:Int×Rat}{r:List (Int×Rat)}(ht:s.ofB t.1 (decide (z3 t.2<0))=none):∀ {ts:List (Int×Rat)} {a:Rat} {l:List (Row×Rat)} {y},s.boxL ts a l=some y->s.boxL (ts++t::r) a l=none
 |[],a,l,y,h=>by grind [Scp.boxL]| x::q,a,l,y,h=>by
  rw[Yh];unfold Scp.boxL at h ⊢;cases hx:s.ofB x.1 (decide (z3 x.2<0)) with
  |none=>rfl| some g =>
   rw[hx] at h;exact UV ht h
def Hs {α:Type}{l:List α}{i:Nat}{a:α}(h:l[i]?=some a):l.take (i+1)=l.take i++[a]:=by rw[dI,h];rfl
def Ld (s:Scp)(f:F)(hs:Usz s)(hz:s.q.sz (2^20))(hp:Dsz (2^20) s.path)(hok:BoxOk s f):zD 46 [sv s,fv f] (.tup [rv (zG (oVq (s.box f))),mlv (mR (oL (s.box f))),bV ((s.box f).isSome)]):=by
 refine sF Tryz.f46 ?_;have cv:=oK s.q (hz.mono (by decide));have cvr:=oO s.q.g (hz.g.mono (by decide));have hgv:s.q.g.valid=true:=by have:=hs.v;unfold Qry.valid at this;grind
 rw[hs.v] at cv;rw[if_pos hgv] at cvr;have c7:=Dv (fA f) s.q.g.vars (by have:=UN hok.fl (by decide);exact this.mono (by decide));rw[hok.vd] at c7;have cof:∀ t,t∈f.ts->zD 111 [sv s,iV t.1,bV (decide (z3 t.2<0))] (bdv ((s.ofB t.1 (decide (z3 t.2<0))).getD (R0,[])) (s.ofB t.1 (decide (z3 t.2<0))).isSome):=λt ht=>EH s t.1 _ hs hz hp (hok.v t ht).1 (hok.v t ht).2;have csg:∀ t,t∈f.ts->zD 30 [rv (zG t.2)] (iV (z3 t.2)):=λt ht=>by have:=s35 (zG t.2) (xF (zT (hok.fl.t t ht)).n (by decide));grind [zV]
 have pD:∀ a t b,Fits (2^29) a->t∈f.ts->b.sz (2^28)->zD 84 [rv (zG t.2),rv b] (rv (zG (t.2*b.q)))/\zD 18 [rv (zG a),rv (zG (t.2*b.q))] (rv (zG (a+t.2*b.q))):=λa t b ha ht hb=>by have ft:=hok.fl.t t ht;have fb:=hb.fits (by decide);have h1:=s77 (zG t.2) b ((zT ft).mono (by decide)) (hb.mono (by decide));have h2:=s44 (zG a) (zG (t.2*b.q)) ((zT ha).mono (by decide)) ((zT (yY ft fb)).mono (by decide));simp only[zV] at h1 h2;grind
 have cmul:∀ t,t∈f.ts->∀ q,Fits (2^27) q->zD 84 [.agg [bV false,nat (zG t.2).num,nat (zG t.2).den],rv (zG q)] (rv (zG (q*vP t.2)))/\Fits (2^28) (q*vP t.2):=λt ht q hq=>by
  (have ft:=jX (hok.fl.t t ht);have h1:=s77 ⟨false,(zG t.2).num,(zG t.2).den⟩ (zG q) (by rw[sH];exact (zT ft).mono (by decide)) ((zT hq).mono (by decide));have e:(⟨false,(zG t.2).num,(zG t.2).den⟩:R).q=vP t.2:=by rw[sH,zV]);rw[e,zV,Rat.mul_comm] at h1
  exact⟨h1,(yY hq ft).mono (by decide)⟩
 have cpl:∀ (l:List (Row×Rat)) (r:Row) (q:Rat),Mfit (2^30) l->Fits (2^28) q->zD 112 [mlv (mR l),rwv r,rv (zG q)] (mlv (mR (plMq l r q))):=λl r q hl hq=>by have:=Rm l r (zG q) hl ((zT hq).mono (by decide));rw[zV] at this;omega
 have hpre:=hok.pre;have hbd:=hok.bd;have hflen:=hok.fl.len;have hbox:s.box f=s.boxL f.ts f.c []:=rfl;obtain⟨BL,hBL⟩:∃ BL,(λts=>s.boxL ts f.c [])=BL:=⟨_,rfl⟩;have hBLa:∀ ts,BL ts=s.boxL ts f.c []:=λts=>by rw[<-hBL]
 have hB0:BL []=some (f.c,[]):=by rw[hBLa];rfl
 have hBs:∀ i t b a l,f.ts[i]?=some t->s.ofB t.1 (decide (z3 t.2<0))=some b->BL (f.ts.take i)=some (a,l)->BL (f.ts.take (i+1))=some (a+t.2*b.1.q,xU l b.2 (vP t.2)):=λi t b a l h1 h2 h3=>by rw[hBLa] at h3 ⊢;rw[Hs h1];exact UU h2 h3
 have hBn:∀ i t a l,f.ts[i]?=some t->s.ofB t.1 (decide (z3 t.2<0))=none->BL (f.ts.take i)=some (a,l)->BL f.ts=none:=λi t a l h1 h2 h3=>by
  (rw[hBLa] at h3 ⊢;have hd:f.ts=f.ts.take i++t::f.ts.drop (i+1):=by rw[<-zU h1,Sd]);rw[hd]
  exact UV h2 h3
 simp only[<-hBLa] at hpre hbox;obtain⟨o,ho⟩:=ex (s.box f);rw[ho] at hbox ⊢;obtain⟨OF,hOF⟩:∃ OF,(λt:Int×Rat=>s.ofB t.1 (decide (z3 t.2<0)))=OF:=⟨_,rfl⟩;have hOFa:∀ t:Int×Rat,s.ofB t.1 (decide (z3 t.2<0))=OF t:=λt=>by rw[<-hOF]
 simp only[hOFa] at cof hBs hBn hbd;have hln:(tR f.ts).length=f.ts.length:=w4 _;have hget:∀ (i:Nat) t,f.ts[i]?=some t->(tR f.ts)[i]?=some (t.1,zG t.2):=λi t h=>by simp[tR,uY,h]
 have hmn:∀ l c,xU l [] c=l:=λ_ _=>rfl;have hmc:∀ l t r c,xU l (t::r) c=xU (plMq l t.1 (t.2*c)) r c:=λ_ _ _ _=>rfl;obtain⟨ts,fc⟩:=f;dsimp only [fv,fA] at *;generalize s.q.g.vars=N at *;obtain⟨⟨⟨gn,us,os⟩,⟨lo,hi',rows⟩,⟨ts',c1',c2',c3'⟩⟩,path,L⟩:=s
 (try dsimp only at *)
 generalize tR ts=T at *;have hp0:=λa l h=>hpre 0 a l h;obtain⟨C0,hC0⟩:=ex (zG fc);rw[hC0] at c7 ⊢;clear hBL hBLa hOF hOFa ho hs hz hp hok hgv;cbv;refine zM 13 (by cbv) ?_;cbv;refine dA cv ?_;cbv;refine rR rfl ?_;cbv;refine dA cvr ?_;cbv;refine dA c7 ?_;cbv;refine dY rfl ?_;cbv;refine zW (σ:=Nat×R×Rat×List (Row×Rat)) (λst=>⟨[(2,.ptr 2 0),(3,.ptr 3 0),(4,.ptr 4 0),(7,.ptr 7 0),(8,mlv (mR st.2.2.2)),(9,iV st.1)],[(2,.box (sc ⟨⟨⟨gn,us,os⟩,⟨lo,hi',rows⟩,⟨ts',c1',c2',c3'⟩⟩,path,L⟩)),(3,.box [tsv T,bV C0.neg,nat C0.num,nat C0.den]),(4,.box [.ff,.nil,.nil]),(7,.box [bV st.2.1.neg,nat st.2.1.num,nat st.2.1.den])]⟩)
  (λst=>st.1<=ts.length/\st.2.1=zG st.2.2.1/\BL (ts.take st.1)=some (st.2.2.1,st.2.2.2)) (λst=>ts.length-st.1) (0,C0,fc,[]) ⟨yU _,hC0.symm,hB0⟩ (wkZ) ?_
 clear hB0 cv cvr c7 hC0;intro st hst;obtain⟨i,C,a,l⟩:=st;obtain⟨h1,h2,h3⟩:=hst;dsimp only at h1 h2 h3;obtain⟨fa,fl',fl2⟩:=hpre i a l h3;cbv;refine zE (λh5=>?_) (λh5=>?_)
 ·(rw[zA,hln] at h5;have hlt:i<ts.length:=by exact om);obtain⟨t,ht⟩:=zO hlt
  have hm:=zX ht;have hT:=hget i t ht;have d1:=csg t hm;have d2:=cof t hm;have d3:=pD a t;have d4:=cmul t hm;have hb:=hbd t hm;have hs':=hBs i t;have hn':=hBn i t a l ht;obtain⟨tv,tq'⟩:=t;dsimp only at *;obtain⟨ob,hob⟩:=ex (OF (tv,tq'));rw[hob] at d2 hb hs' hn';generalize z3 tq'=sg at *;obtain⟨Q,hQ⟩:=ex (zG tq');rw[hQ] at hT d1 d3 d4;obtain⟨bvQ,hbV⟩:=ex ((ob.getD (R0,[])).1);obtain⟨bP,hbP⟩:=ex ((ob.getD (R0,[])).2);obtain⟨bh,hbh⟩:=ex ob.isSome;rw[hbV,hbP,hbh] at d2;have kn:bh=false->ob=none:=λh=>by cases ob with
   |none=>rfl| some x=>rw[<-hbh] at h;cases h
  have ks:bh=true->ob=some (bvQ,bP):=λh=>by cases ob with
   |none=>rw[<-hbh] at h;cases h
   |some x=>rw[<-hbV,<-hbP];rfl
  clear cof csg pD cmul hbd hpre hget hBs hBn hbV hbP hbh hob;cbv;refine yB hT wG wE ?_;cbv;refine kJ 9 (by cbv) (by cbv) ?_;cbv;refine dA d1 ?_;cbv;refine dA d2 ?_;cbv;refine zP (λe=>?_) (λe=>?_)
  rotate_left
  ·have e1:=hn' (kn e) h3;rw[e1] at hbox;subst hbox;cbv
   (refine rC ?_;cbv)
   exact⟨⟨zK (by show (zG 0).neg=false;rw[u9]),yX (by show lm (zG 0).num=[];rw[u9];rfl),yX (by show lm (zG 0).den=[];rw[u9];rfl),trivial⟩,yX rfl,zK rfl,trivial⟩
  (have e1:=ks e;obtain⟨zb,fb,lb⟩:=hb (bvQ,bP) e1;obtain⟨d5,d6⟩:=d3 bvQ fa hm zb;have hnx:=hs' (bvQ,bP) a l ht e1 h3;rw[<-h2] at d6;dsimp only at d5 d6 hnx lb fb;generalize tq'*bvQ.q=pr at *;generalize hW:zG (a+pr)=W at *;generalize zG pr=PR at *;obtain⟨AC,hAC⟩:=ex (vP tq');rw[hAC] at d4 hnx;obtain⟨A0,hA0⟩:∃ n:Nat,n=2^28:=⟨_,rfl⟩;obtain⟨L0,hL0⟩:∃ n:Nat,n=2^36:=⟨_,rfl⟩;obtain⟨D0,hD0⟩:∃ n:Nat,n=2^28+1:=⟨_,rfl⟩;have fl0:∀ t,t∈l->Fits A0 t.2:=λt h=>by rw[hA0];exact fl' t h);have fl3:l.length<=L0:=by rw[hL0];exact fl2
  have hAD:∀ i:Nat,i<=1->A0+i*D0<=2^30:=λi hi=>by have:i*D0<=1*D0:=jC _ hi;omega
  (have hLL:∀ i:Nat,i<=2->L0+i<2^37:=λi hi=>by omega);have hD1:∀ i:Nat,(A0+i*D0)+2^28+1<=A0+(i+1)*D0:=λi=>by rw[Nat.succ_mul];omega
  clear hA0 hL0 hD0 fl' fl2;clear hn' hs' kn ks d3;cbv;refine zM 7 (by cbv) ?_;cbv;refine dA d5 ?_;cbv;refine dA d6 ?_;cbv;refine zW (σ:=Nat×List (Row×Rat)) (λst=>⟨[(2,.ptr 2 0),(3,.ptr 3 0),(4,.ptr 4 0),(7,.ptr 7 0),(8,mlv (mR st.2)),(9,iV i),(11,.ptr 11 0),(12,.ptr 12 0),(13,iV st.1)],[(2,.box (sc ⟨⟨⟨gn,us,os⟩,⟨lo,hi',rows⟩,⟨ts',c1',c2',c3'⟩⟩,path,L⟩)),(3,.box [tsv T,bV C0.neg,nat C0.num,nat C0.den]),(4,.box [.ff,.nil,.nil]),(7,.box [bV W.neg,nat W.num,nat W.den]),(11,.box [bV bvQ.neg,nat bvQ.num,nat bvQ.den,mlv (mR bP),bV bh]),(12,.box [.ff,nat Q.num,nat Q.den])]⟩)
   (λst=>st.1<=bP.length/\xU l bP AC=xU st.2 (bP.drop st.1) AC/\(∀ t,t∈st.2->Fits (A0+st.1*D0) t.2)/\st.2.length<=L0+st.1) (λst=>bP.length-st.1) (0,l) ⟨yU _,rfl,by simpa using fl0,by simpa using fl3⟩ (wkZ) ?_
  intro st hst;obtain⟨k,l2⟩:=st;obtain⟨g1,g2,g3,g4⟩:=hst;dsimp only at g1 g2 g3 g4;cbv;refine zE (λh6=>?_) (λh6=>?_)
  ·(rw[zA,jJ] at h6;have hlt2:k<bP.length:=by exact om);obtain⟨x,hx⟩:=zO hlt2
   (have hxm:(mR bP)[k]?=some ⟨x.1,zG x.2⟩:=by simp[mR,uY,hx]);obtain⟨m1,m2⟩:=d4 x.2 (fb x (zX hx))
   have m3:=cpl l2 x.1 (x.2*AC) ⟨by have:=hLL k oM;omega,λt ht=>(g3 t ht).mono (hAD k oM)⟩ m2;rw[zU hx,hmc] at g2;have g3':=nC (r:=x.1) m2 g3;have g4':=o5 l2 x.1 (x.2*AC);obtain⟨xr,xq⟩:=x;dsimp only at *;generalize plMq l2 xr (xq*AC)=l3 at *;generalize zG (xq*AC)=Y at *;generalize zG xq=X at *;cbv;refine zM 17 (by cbv) ?_;cbv;refine yB hxm wY xN ?_;cbv;refine yB hxm wY xN ?_;cbv;refine dA m1 ?_;cbv;refine dA m3 ?_;cbv;exact⟨zC om om,(k+1,l3),⟨om,g2,λt ht=>(g3' t ht).mono (hD1 k),(by show l3.length<=L0+(k+1);omega)⟩,om,wkZ⟩
  ·(have hk:k=bP.length:=by rw[zA,jJ] at h6;exact om);rw[hk,wD,hmn] at g2
   rw[g2] at hnx;cbv;exact⟨zC om om,(i+1,W,a+pr,l2),⟨om,hW.symm,hnx⟩,om,wkZ⟩
 ·(have hi:i=ts.length:=by rw[zA,hln] at h5;exact om);rw[hi,wW] at h3
  rw[h3] at hbox;subst hbox h2;have cc:=s47 (zG a) ((zT fa).mono (by decide));rw[zV] at cc;have e1:oVq (some (a,l))=a:=rfl;have e2:oL (some (a,l))=l:=rfl;rw[e1,e2];generalize zG a=A at *;generalize mR l=M at *;cbv;refine cA cc ?_;cbv;exact rA
end Go.Proofs.YtaeaffgjdcigoaaGreat
