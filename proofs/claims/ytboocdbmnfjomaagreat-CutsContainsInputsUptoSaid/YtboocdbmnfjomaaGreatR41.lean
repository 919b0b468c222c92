/- A part of the proof: CtE, CtF, CtG, CtH. -/
import Derived.Test.YtboocdbmnfjomaaGreatR40
import Derived.Test.YtboocdbmnfjomaaGreatR39
import Derived.Test.YtboocdbmnfjomaaGreatR28
import Derived.Test.YtboocdbmnfjomaaGreatR25
import Derived.Test.YtboocdbmnfjomaaGreatR32
set_option linter.all false
namespace Go.Proofs.YtboocdbmnfjomaaGreat
open Go
set_option maxRecDepth 100000
set_option maxHeartbeats 8000000
def cbc (b:Bool):List PV:=[zM b]
structure CW where
 us:List A
 sd:Bool
 st:Int
 z:R
 pt:List Rat
 du:List Rat
 ry:List Rat
 bas:List Nat
 pv:Int
abbrev cwB (n:Nat) (v:Int) (ots:List (Int×R)) (oc:R) (t:CW):List PV:=wC n v t.us ots oc t.sd t.st t.z t.pt t.du t.ry t.bas t.pv 0
def CW.add (t:CW) (a:A):CW:={ t with us:=t.us++[a],sd:=false }
abbrev pcv (v:Int) (FS:List A) (ots:List (Int×R)) (oc:R):List PV:=[iV v,alv FS,tsv ots,zM oc.neg,nat oc.num,nat oc.den]
abbrev cuK (IN : List Bool) (US L : List Row) (v : Int) (FS : List A) (ots : List (Int × R)) (oc : R) (t : CW) : List (Nat × Obj') :=
  [(1000000, .box [zW 1000005 1 IN.length]), (1000001, .box [zW 21 4 US.length]), (1000002, .box [wR L]), (1000003, .box [.ptr 1000006 0]), (1000004, .box (pcv v FS ots oc)),
   (1000005, z5 1 (enc cbc IN)), (1000006, .box (cwB 31 v ots oc t))]
abbrev cuE (US:List Row) (us:List A):List (Nat×Obj'):=[(21,z5 4 (enc rwc US)),(31,z5 4 (enc ac us))]
abbrev cuA (i:Nat):List PV:=[iV i,.ptr 1000000 0,.ptr 1000001 0,.ptr 1000002 0,.ptr 1000003 0,.ptr 1000004 0]
def AP {l:List Bool}{i i':Nat}{x:Bool}{K:List PV->Prop}(h:l[i]?=some x)(hi:i'=i)(hK:K [zM x]):ElOk 1 (λ_=>enc cbc l) (λ_=>i') K :=
 FB i hi (cbc x) rfl rfl (by unfold enc;rw[vH,h];rfl) hK
def Fw:Pg.funcs[62]?=some Tryz.f62:=by rw[uM];rfl
def RK (i:Nat)(IN:List Bool)(US L:List Row)(v:Int)(FS:List A)(ots:List (Int×R))(oc:R)(t:CW)(hi:IN[i]?=some true):Sound 62 (cuA i) (cuK IN US L v FS ots oc t) (cuE US t.us) (.tup []) (cuK IN US L v FS ots oc t) (cuE US t.us):=by have hlt:=(wI.1 hi).1;refine xR Fw rfl rfl rfl rfl rfl ?_;obtain⟨us,sd,st,z,pt,du,ry,bas,pv⟩:=t;cbv;refine⟨yD om om,?_⟩;refine AP hi om ?_;cbv;refine s4 rfl ?_;cbv;refine pG id (.refl _) rfl okR (by rfl) okR ?_;cbv
def G6 (i:Nat)(IN:List Bool)(US L:List Row)(v:Int)(FS:List A)(ots:List (Int×R))(oc:R)(t:CW)(r:Row)(a:A)(hi:IN[i]?=some false)(hr:L[i]?=some r)(ha:FS[i]?=some a) (hsz:a.sz (2^32)) (hv:a.valid v=true) (hu:t.us.length<4096) (hU:US.length<4096) (hn:¬(t.sd=true/\t.st=2)):Sound 62 (cuA i) (cuK IN US L v FS ots oc t) (cuE US t.us) (.tup []) (cuK (IN.set i true) (US++[r]) L v FS ots oc (t.add a)) (cuE (US++[r]) (t.add a).us):=by
 have hlt:=(wI.1 hi).1;have ca:=Mh a v t.us ots oc t.sd t.st t.z t.pt t.du t.ry t.bas t.pv hsz hv hu hn;refine xR Fw rfl rfl rfl rfl rfl ?_;obtain⟨us,sd,st,z,pt,du,ry,bas,pv⟩:=t;unfold CW.add;dsimp only at *;have e1:(enc cbc IN).set i [D.bool true]=enc cbc (IN.set i true):=lK cbc IN i true;have e2:enc rwc US++zK [rwc r]=enc rwc (US++[r]):=by rw[<-zV];rfl
 have e3:(US++[r]).length=US.length+1:=by rw[vE];rfl
 have e4:(IN.set i true).length=IN.length:=cL;generalize IN.set i true=IN' at *;generalize US++[r]=US' at *;generalize us++[a]=us' at *;obtain⟨ats,acc⟩:=a;have ca':Sound 63 [.ptr 1000000 0,.agg [tsv ats,zM acc.neg,nat acc.num,nat acc.den]] [(1000000,.box (wC 31 v us ots oc sd st z pt du ry bas pv 0))] [(31,z5 4 (enc ac us))] (iV 0) [(1000000,.box (wC 31 v us' ots oc false st z pt du ry bas pv 0))] [(31,z5 4 (enc ac us'))]:=ca;clear ca hsz hv hu hn;cbv;refine⟨yD om om,?_⟩;refine AP hi om ?_;cbv;refine pA rfl ?_;cbv;refine⟨yD om om,?_⟩;refine AP hi om ?_;cbv;refine zP 6 (by cbv) ?_;cbv;refine yT hr gP dF ?_;cbv;refine xJ GF rfl rfl rfl (by rw[zB]) rfl ⟨by simp[zK,xC]⟩ (z3 (by simp[zK] <;> omega) (by simp[zK,zB];exact om)) rfl ?_;cbv;refine zP 6 (by cbv) ?_;cbv;refine yT ha vP qD ?_;cbv;refine kA (λn=>match nqb n 1000000 with|true=>1000006|false=>n) ca' ?_;cbv;refine pG (ps':=⟨[],cuK IN' US' L v FS ots oc ⟨us',false,st,z,pt,du,ry,bas,pv⟩++cuE US' us'⟩) id (.le (by cbv) (by
  cbv
  repeat' first|exact trivial|exact lR|exact zR rfl e4.symm|exact zR rfl (by rw[zB,e3];rfl)|exact zC rfl|exact zC e1|exact zC (by show (enc cbc IN).set (0+((i:Nat):Int).toNat) [D.bool true]=enc cbc IN';rw[vF,kN];exact e1)|exact zC e2|exact zN rfl|exact z4 rfl|apply And.intro) rfl) rfl okR (by rfl) okR ?_
 cbv
structure LpF (s:Scp) (f:A) (L:List Row) (FS:List A) (s0 s1:SolR):Prop where
 prg:zE 9 [sv s,av f] (.tup [.agg (pcv 2 FS f.ts f.c),wR L,iV 0])
 val:zE 60 [.agg (pcv 2 FS f.ts f.c)] (zM true)
 new:Sound 61 [.agg (pcv 2 [] f.ts f.c)] [] [] (.tup [.ptr 10 0,iV 0]) [] [(10,.box (SF 8 2 [] f.ts f.c)),(8,z5 4 (enc ac []))]
 len:L.length=4/\FS.length=4
 ear:∀ (i:Nat) r,L[i]?=some r->zE 64 [rwv r] (zM (decide (i<3)))
 ok:∀ (i:Nat) a,FS[i]?=some a->a.sz (2^32)/\a.valid 2=true
 q0:Sound 111 [pgo 1000009 ⟨2,FS.take 3,f⟩] (rwO 1000009 (FS.take 3)) [] (.tup [slv s0,iV 0]) (rwO 1000009 (FS.take 3)) []
 q1:s0.st=3->Sound 111 [pgo 1000009 ⟨2,FS,f⟩] (rwO 1000009 FS) [] (.tup [slv s1,iV 0]) (rwO 1000009 FS) []/\s1.st=3
 vio:s0.st=1->zE 14 [sv s,rlv (s0.pt.map zI)] (wR [])
 st:s0.st=1\/s0.st=3
 fit:s0.du.length<=3/\∀ q,q∈s0.du->Fits (2^20) q
 l0:s0.pt.length<2^38/\s0.du.length<2^38/\s0.ry.length<2^38/\s0.bas.length<2^38
 l1:s1.pt.length<2^38/\s1.du.length<2^38/\s1.ry.length<2^38/\s1.bas.length<2^38
def lpR (L:List Row) (s0:SolR):SolR×List (Row×Rat):=if s0.st=3 then (⟨3,0,[],[],[],[],0⟩,[]) else (s0,(kD (i5 (L.take 3) s0.du)).2)
def ptv (x:SolR×List (Row×Rat)):List PV:=[iV x.1.st,zM ((zI x.1.val).neg),nat (zI x.1.val).num,nat (zI x.1.val).den,qlv x.1.pt,mlv (mR x.2)]
def inA (i:Nat):List Bool:=[decide (0<i),decide (1<i),decide (2<i),false]
def Zk (i:Nat):List Bool:=[true,true,true,decide (3<i)]
def nB (i:Nat):Nat:=if i<4 then 3 else 4
def Ah (i:Nat)(h:i<3):(inA i)[i]?=some false/\(inA i).set i true=inA (i+1):=by
 have:i=0\/i=1\/i=2:=by omega
 rcases this with rfl|rfl|rfl <;> exact⟨rfl,rfl⟩
def Fu (i:Nat)(h:i<3):(Zk i)[i]?=some true/\Zk i=Zk (i+1):=by
 have:i=0\/i=1\/i=2:=by omega
 rcases this with rfl|rfl|rfl <;> exact⟨rfl,rfl⟩
def cwU (us:List A):CW:=⟨us,false,0,⟨false,[],[]⟩,[],[],[],[],0⟩
def cwV (us:List A) (s:SolR) (sd:Bool):CW:=⟨us,sd,s.st,zI s.val,s.pt,s.du,s.ry,s.bas,s.pv⟩
abbrev lpO (bx : List PV) (IN : List Bool) (US L : List Row) (FS : List A) (ots : List (Int × R)) (oc : R) (t : CW) : List (Nat × Obj') :=
  [(2, .box bx), (4, .box [iV 0, .ff, .nil, .nil, .nil, .nil]), (12, .box [zW 46 1 IN.length]), (11, .box [zW 21 4 US.length]), (7, .box [wR L]), (9, .box [.ptr 10 0]), (6, .box (pcv 2 FS ots oc)),
   (46, z5 1 (enc cbc IN)), (10, .box (cwB 31 2 ots oc t)), (21, z5 4 (enc rwc US)), (31, z5 4 (enc ac t.us))]
abbrev lpF:PV:=.fn 62 [.ptr 12 0,.ptr 11 0,.ptr 7 0,.ptr 9 0,.ptr 6 0]
abbrev lpT:List (Nat×PV):=[(2,.ptr 2 0),(4,.ptr 4 0),(7,.ptr 7 0),(9,.ptr 9 0),(11,.ptr 11 0),(13,.fn 62 [.ptr 12 0,.ptr 11 0,.ptr 7 0,.ptr 9 0,.ptr 6 0])]
def P4 {s : Scp} {f : A} {L : List Row} {FS : List A} {s0 s1 : SolR} (H : LpF s f L FS s0 s1) : zE 23 [sv s, av f] (.tup [.agg (ptv (lpR L s0)), iV 0]) := by
  refine sF Tryz.f23 ?_
  obtain ⟨c1, c2, c3, ⟨hL, hF⟩, ce, hok, q0, q1, cv, hst, ⟨hd1, hd2⟩, ⟨k1, k2, k3, k4⟩, ⟨m1, m2, m3, m4⟩⟩ := H
  obtain ⟨ts, c⟩ := f
  try dsimp only at c1 c2 c3
  have cpf := Mz (L.take 3) s0.du (by rw [vG]; omega) oM hd2
  have w0 := CR 2 (FS.take 3) ts c 0 ⟨false, [], []⟩ [] [] [] [] 0 0 s0 q0 k1 k2 k3 k4
  have w1 := fun h => CR 2 FS ts c s0.st (zI s0.val) s0.pt s0.du s0.ry s0.bas s0.pv 0 s1 (q1 h).1 m1 m2 m3 m4
  have hs1 := fun h => (q1 h).2
  have eL : ∀ (i : Nat) r, L[i]? = some r → L.take i ++ [r] = L.take (i + 1) := fun i r h => by rw [rS, h]; rfl
  have eF : ∀ (i : Nat) a, FS[i]? = some a → FS.take i ++ [a] = FS.take (i + 1) := fun i a h => by rw [rS, h]; rfl
  have a0 : ∀ (i : Nat) r a, i < 3 → L[i]? = some r → FS[i]? = some a → Sound 62 (cuA i) (cuK (inA i) (L.take i) L 2 FS ts c (cwU (FS.take i))) (cuE (L.take i) (FS.take i)) (.tup []) (cuK (inA (i + 1)) (L.take (i + 1)) L 2 FS ts c (cwU (FS.take (i + 1)))) (cuE (L.take (i + 1)) (FS.take (i + 1))) := fun i r a h hr ha => by
    have k := G6 i (inA i) (L.take i) L 2 FS ts c (cwU (FS.take i)) r a (Ah i h).1 hr ha (hok i a ha).1 (hok i a ha).2 (by show (FS.take i).length < 4096; rw [vG]; omega) (by rw [vG]; omega) (fun h => by cases h.1)
    rw [(Ah i h).2, eL i r hr, show (cwU (FS.take i)).add a = cwU (FS.take (i + 1)) from congrArg cwU (eF i a ha)] at k
    exact k
  have a1 : ∀ (i : Nat), i < 3 → _ := fun i h => RK i (Zk i) (L.take 3) L 2 FS ts c (cwV (FS.take 3) s0 true) (Fu i h).1
  have a2 : ∀ r a, s0.st = 3 → L[3]? = some r → FS[3]? = some a → Sound 62 (cuA 3) (cuK (Zk 3) (L.take 3) L 2 FS ts c (cwV (FS.take 3) s0 true)) (cuE (L.take 3) (FS.take 3)) (.tup []) (cuK (Zk 4) L L 2 FS ts c (cwV FS s0 false)) (cuE L FS) := fun r a h hr ha => by
    have k := G6 3 (Zk 3) (L.take 3) L 2 FS ts c (cwV (FS.take 3) s0 true) r a rfl hr ha (hok 3 a ha).1 (hok 3 a ha).2 (by show (FS.take 3).length < 4096; rw [vG]; omega) (by rw [vG]; omega) (fun w => by have := w.2; rw [show (cwV (FS.take 3) s0 true).st = ((s0.st : Nat) : Int) from rfl, h] at this; cases this)
    have e1 : L.take 4 = L := yW oM
    have e2 : FS.take 4 = FS := yW oM
    rw [show (Zk 3).set 3 true = Zk 4 from rfl, eL 3 r hr, show (cwV (FS.take 3) s0 true).add a = cwV (FS.take 4) s0 false from congrArg (fun x => cwV x s0 false) (eF 3 a ha), e1, e2] at k
    exact k
  obtain ⟨RR, hRR⟩ := ex (lpR L s0)
  have hR3 : s0.st = 3 → RR = (⟨3, 0, [], [], [], [], 0⟩, []) := fun h => by rw [← hRR]; exact if_pos h
  have hR1 : s0.st = 1 → RR = (s0, (kD (i5 (L.take 3) s0.du)).2) := fun h => by rw [← hRR]; exact if_neg oM
  rw [hRR]
  clear hRR q0 q1 hok k1 k2 k3 k4 m1 m2 m3 m4 eL eF hd2
  generalize (kD (i5 (L.take 3) s0.du)).2 = PF at *
  have hqe : ∀ l : List Rat, enc cq l = enc rc (l.map zI) := fun l => by unfold enc; rw [Ki]; rfl
  obtain ⟨⟨⟨n, us, os⟩, ⟨lo, hiR, rows⟩, ⟨gts, gc⟩⟩, path, lems⟩ := s
  try dsimp only at c1 cv
  cbv
  refine cA c1 ?_
  cbv
  refine xF rfl ?_
  cbv
  refine cA c2 ?_
  cbv
  refine s4 rfl ?_
  cbv
  refine YK (fun n => match nqb n 8 with | true => 31 | false => n) (.refl _) rfl okA c3 (by exact trivial) rfl rfl rfl rfl rfl rfl rfl rfl ?_
  clear c1 c2 c3
  cbv
  refine ⟨z3 okQ okQ, uW okQ okQ, ?_⟩
  cbv
  refine zZ (σ := Nat) (fun i => ⟨lpT ++ [(48, wR L), (49, iV 4), (50, iV i)], lpO [iV n, alv us, alv os, rlv lo, rlv hiR, alv rows, tsv gts, zM gc.neg, nat gc.num, nat gc.den, dlv path, llv lems] (inA i) (L.take (min i 3)) L FS ts c (cwU (FS.take (min i 3)))⟩)
    (fun i => i ≤ 4) (fun i => 4 - i) 0 (xK _)
    (.trans (.le (ps' := ⟨lpT ++ [(48, wR L), (49, iV 4), (50, iV (((0 : Nat) : Int)))], [(2, .box [iV n, alv us, alv os, rlv lo, rlv hiR, alv rows, tsv gts, zM gc.neg, nat gc.num, nat gc.den, dlv path, llv lems]), (4, .box [iV 0, .ff, .nil, .nil, .nil, .nil]), (12, .box [zW 46 1 4]), (11, .box [.nil]), (7, .box [wR L]), (9, .box [.ptr 10 0]), (6, .box (pcv 2 FS ts c)),
   (46, z5 1 (enc cbc (inA 0))), (10, .box (cwB 31 2 ts c (cwU []))), (31, z5 4 (enc ac []))]⟩) (by cbv; repeat' first | exact trivial | exact lR | exact zG (by (try dsimp only [z6] at *); rw [zB]; omega) | (exact ⟨rfl, by repeat' first | exact trivial | exact lR | apply And.intro⟩) | apply And.intro)
      (by cbv; repeat' first | exact trivial | exact lR | exact zR rfl (by (try dsimp only [z6] at *); rw [zB, hL]; rfl) | exact zC (by (try dsimp only [z6] at *); rw [zB, hL]; rfl) | exact zC rfl | exact zN rfl | exact xD rfl | apply And.intro) rfl)
      (.trans (.adoptB (cs := [.nil]) 21 4 11 0 rfl rfl rfl)
      (.le (by cbv; repeat' first | exact trivial | exact lR | (exact ⟨rfl, by repeat' first | exact trivial | exact lR | apply And.intro⟩) | apply And.intro) (by cbv; repeat' first | exact trivial | exact lR | exact zR rfl rfl | exact zC rfl | apply And.intro) rfl))) ?_
  intro i hi
  cbv
  refine zH (fun h => ?_) (fun h => ?_)
  · have hlt : i < 4 := om
    obtain ⟨r, hr⟩ := zY (l := L) (i := i) oM
    obtain ⟨a, ha⟩ := zY (l := FS) (i := i) oM
    have ce' := ce i r hr
    by_cases h3 : i < 3
    · have k := a0 i r a h3 hr ha
      clear a0 a1 a2 ce w0 w1 cpf cv hs1
      rw [show min i 3 = i by omega]
      cbv
      refine yT hr gP dF ?_
      cbv
      refine cA ce' ?_
      cbv
      refine xF h3 ?_
      cbv
      refine kA M4 k ?_
      cbv
      refine ⟨zF om om, i + 1, hlt, by show 4 - (i + 1) < 4 - i; omega, ?_⟩
      rw [show min (i + 1) 3 = i + 1 by omega]
      exact (.le (by cbv; repeat' first | exact trivial | exact lR | exact zG om | (exact ⟨rfl, by repeat' first | exact trivial | exact lR | apply And.intro⟩) | apply And.intro) (by cbv; repeat' first | exact trivial | exact lR | exact zC rfl | exact zN rfl | exact yL rfl | apply And.intro) rfl)
    · have hi3 : i = 3 := by omega
      subst hi3
      clear a0 a1 a2 ce w0 w1 cpf cv hs1
      cbv
      refine yT hr gP dF ?_
      cbv
      refine cA ce' ?_
      cbv
      refine yE h3 ?_
      cbv
      exact ⟨zF om om, 4, by decide, by decide, (.le (by cbv; repeat' first | exact trivial | exact lR | exact zG om | (exact ⟨rfl, by repeat' first | exact trivial | exact lR | apply And.intro⟩) | apply And.intro) (by cbv; repeat' first | exact trivial | exact lR | exact zC rfl | exact zN rfl | exact yL rfl | apply And.intro) rfl)⟩
  · have hi4 : i = 4 := om
    subst hi4
    clear a0 ce
    cbv
    refine zZ (σ := Bool) (fun b => match b with
      | false => ⟨lpT ++ [(16, .ptr 16 0)], lpO [iV n, alv us, alv os, rlv lo, rlv hiR, alv rows, tsv gts, zM gc.neg, nat gc.num, nat gc.den, dlv path, llv lems] (Zk 0) (L.take 3) L FS ts c (cwU (FS.take 3)) ++ [(16, .box [iV 0, .ff, .nil, .nil, .nil, .nil, .nil, .nil, iV 0])]⟩
      | true => ⟨lpT ++ [(16, .ptr 16 0)], lpO [iV n, alv us, alv os, rlv lo, rlv hiR, alv rows, tsv gts, zM gc.neg, nat gc.num, nat gc.den, dlv path, llv lems] (Zk 4) L L FS ts c (cwV FS s0 false) ++ [(16, .box (slc s0))]⟩) (fun b => b = true → s0.st = 3) (fun b => match b with | false => 1 | true => 0) false (fun h => by cases h) (.le (by cbv; repeat' first | exact trivial | exact lR | exact zG om | (exact ⟨rfl, by repeat' first | exact trivial | exact lR | apply And.intro⟩) | apply And.intro) (by cbv; repeat' first | exact trivial | exact lR | exact zC rfl | exact zN rfl | exact yL rfl | apply And.intro) rfl) ?_
    intro b hb
    cases b with
    | false =>
      clear w1 hb hi h
      cbv
      refine kA L6 w0 ?_
      clear w0
      cbv
      refine xF rfl ?_
      cbv
      refine yE (by rcases hst with e | e <;> (rw [e]; decide)) ?_
      cbv
      refine zH (fun h => ?_) (fun h => ?_)
      · have h3 : s0.st = 3 := by exact om
        cbv
        refine yE (by rw [zB, hL, vG, hL]; decide) ?_
        cbv
        refine zZ (σ := Nat) (fun i => ⟨lpT ++ [(16, .ptr 16 0), (86, iV 4), (87, iV i)], lpO [iV n, alv us, alv os, rlv lo, rlv hiR, alv rows, tsv gts, zM gc.neg, nat gc.num, nat gc.den, dlv path, llv lems] (Zk i) (L.take (nB i)) L FS ts c (cwV (FS.take (nB i)) s0 (decide (i < 4))) ++ [(16, .box (slc s0))]⟩)
          (fun i => i ≤ 4) (fun i => 4 - i) 0 (xK _) (.le (by cbv; repeat' first | exact trivial | exact lR | exact zG (by (try dsimp only [z6] at *); rw [zB, hL]; rfl) | (exact ⟨rfl, by repeat' first | exact trivial | exact lR | apply And.intro⟩) | apply And.intro) (by cbv; repeat' first | exact trivial | exact lR | exact zC rfl | exact z4 rfl | exact yL rfl | apply And.intro) rfl) ?_
        intro i hi
        cbv
        refine zH (fun h => ?_) (fun h => ?_)
        · have hlt : i < 4 := om
          by_cases hi3 : i < 3
          · have k := a1 i hi3
            have e1 : nB i = 3 := if_pos oM
            have e2 : nB (i + 1) = 3 := if_pos oM
            have e3 : decide (i < 4) = true := decide_eq_true hlt
            have e4 : decide (i + 1 < 4) = true := decide_eq_true oM
            clear a1 a2 cpf cv
            cbv
            refine kW M4 (.le (ps' := ⟨lpT ++ [(16, .ptr 16 0), (86, iV 4), (87, iV i), (90, lpF), (91, iV i)], lpO [iV n, alv us, alv os, rlv lo, rlv hiR, alv rows, tsv gts, zM gc.neg, nat gc.num, nat gc.den, dlv path, llv lems] (Zk i) (L.take 3) L FS ts c (cwV (FS.take 3) s0 true) ++ [(16, .box (slc s0))]⟩) (by cbv; repeat' first | exact trivial | exact lR | exact zG om | (exact ⟨rfl, by repeat' first | exact trivial | exact lR | apply And.intro⟩) | apply And.intro) (by cbv; rw [e1, e3]; repeat' first | exact trivial | exact lR | exact zC rfl | exact zN rfl | exact yL rfl | exact z4 rfl | apply And.intro) rfl) k ?_
            cbv
            exact ⟨zF om om, i + 1, hlt, by show 4 - (i + 1) < 4 - i; omega, .le (by cbv; repeat' first | exact trivial | exact lR | exact zG om | (exact ⟨rfl, by repeat' first | exact trivial | exact lR | apply And.intro⟩) | apply And.intro) (by cbv; rw [e2, e4, ← (Fu i hi3).2]; repeat' first | exact trivial | exact lR | exact zC rfl | exact zN rfl | exact yL rfl | exact z4 rfl | apply And.intro) rfl⟩
          · have hi3 : i = 3 := by omega
            subst hi3
            obtain ⟨r, hr⟩ := zY (l := L) (i := 3) oM
            obtain ⟨a, ha⟩ := zY (l := FS) (i := 3) oM
            have k := a2 r a h3 hr ha
            clear a1 a2 cpf cv
            cbv
            refine kW M4 (.le (ps' := ⟨lpT ++ [(16, .ptr 16 0), (86, iV 4), (87, iV (((3 : Nat) : Int))), (90, lpF), (91, iV (((3 : Nat) : Int)))], lpO [iV n, alv us, alv os, rlv lo, rlv hiR, alv rows, tsv gts, zM gc.neg, nat gc.num, nat gc.den, dlv path, llv lems] (Zk 3) (L.take 3) L FS ts c (cwV (FS.take 3) s0 true) ++ [(16, .box (slc s0))]⟩) (by cbv; repeat' first | exact trivial | exact lR | exact zG om | (exact ⟨rfl, by repeat' first | exact trivial | exact lR | apply And.intro⟩) | apply And.intro) (by cbv; repeat' first | exact trivial | exact lR | exact zC rfl | exact zN rfl | exact yL rfl | exact z4 rfl | apply And.intro) rfl) k ?_
            cbv
            exact ⟨zF om om, 4, by decide, by decide, .le (by cbv; repeat' first | exact trivial | exact lR | exact zG om | (exact ⟨rfl, by repeat' first | exact trivial | exact lR | apply And.intro⟩) | apply And.intro) (by cbv; rw [show L.take (nB 4) = L from yW (by rw [hL]; decide), show FS.take (nB 4) = FS from yW (by rw [hF]; decide)]; repeat' first | exact trivial | exact lR | exact zC rfl | exact zN rfl | exact yL rfl | exact z4 rfl | apply And.intro) rfl⟩
        · have hi4 : i = 4 := om
          subst hi4
          cbv
          exact ⟨true, fun _ => h3, by decide, .le (by cbv; repeat' first | exact trivial | exact lR | exact zG om | (exact ⟨rfl, by repeat' first | exact trivial | exact lR | apply And.intro⟩) | apply And.intro) (by cbv; rw [show L.take (nB 4) = L from yW (by rw [hL]; decide), show FS.take (nB 4) = FS from yW (by rw [hF]; decide)]; repeat' first | exact trivial | exact lR | exact zC rfl | exact zN rfl | exact yL rfl | exact z4 rfl | apply And.intro) rfl⟩
      · have h1 : s0.st = 1 := by rcases hst with e | e; exact e; exact absurd (by rw [e]; rfl) h
        have cv1 := cv h1
        have hR := hR1 h1
        subst hR
        cbv
        refine xE rfl (by exact ⟨okA, zT (hqe _), trivial⟩) cv1 rfl ?_
        cbv
        refine xF rfl ?_
        cbv
        refine yE (by rw [h1]; decide) ?_
        cbv
        refine WW 10 (.frz 21 rfl rfl (by cbv; repeat' first | exact trivial | apply And.intro) (by cbv; repeat' first | exact trivial | exact yB (by rw [zB]; omega) | apply And.intro)) (by cbv) ?_
        cbv
        refine wH (by exact ⟨zT (by rw [v5, ← zB rwc (L.take 3), v6]), lR, trivial⟩) cpf rfl ?_
        cbv
        exact rA
    | true =>
      have h3 := hb rfl
      have w2 := w1 h3
      have h4 := hs1 h3
      have hR := hR3 h3
      subst hR
      clear w1 w0 a1 a2 cpf cv
      cbv
      refine kA L6 w2 ?_
      clear w2
      cbv
      refine xF rfl ?_
      cbv
      refine yE (by rw [h4]; decide) ?_
      cbv
      refine xF (by rw [h4]; decide) ?_
      cbv
      refine xF (by rw [zB]) ?_
      cbv
      (refine rC ?_; cbv)
      exact ⟨⟨lR, zN (by rw [vR]), xD (by rw [vR]; rfl), xD (by rw [vR]; rfl), xD rfl, xD rfl, trivial⟩, lR, trivial⟩
def cuF:F:=⟨[(0,1)],-1⟩
def cuX:FQry:=⟨⟨1,[cuF],[cuF]⟩,⟨[(0,3)],[]⟩,F.zero⟩
def cuQ:Scp:=⟨cuX.q,[],[]⟩
def Nv:cuQ.sz (2^20):=by
 have f3:∀ z:Int,z.natAbs<2^20->(zI ((z:Int):Rat)).sz 1:=λz h=>zX (nE (jJ h (by decide)) (by decide));have fw:(fA cuF).sz 1:=by
  (refine⟨⟨by show 1<2^38;decide,λt ht=>?_⟩,f3 (-1) (by decide)⟩;have:t=((0:Int),zI ((1:Int):Rat)):=by simpa[fA,cuF,tR] using ht);rw[this];exact f3 1 (by decide)
 have fz:(fA F.zero).sz 1:=⟨⟨by show 0<2^38;decide,λt ht=>absurd ht (by simp[fA,F.zero,tR])⟩,f3 0 (by decide)⟩;refine⟨⟨⟨⟨by show 1<2^38;decide,λa ha=>?_⟩,⟨by show 1<2^38;decide,λa ha=>?_⟩⟩,⟨⟨by show 1<2^38;decide,λa ha=>?_⟩,⟨by show 1<2^38;decide,λa ha=>?_⟩,⟨by show 0<2^38;decide,λa ha=>absurd ha (by simp[cuQ,cuX,FQry.q,FReg.g])⟩⟩,fz.mono (by decide)⟩,
  ⟨by show 0<2^38;decide,λd hd=>absurd hd (by simp[cuQ])⟩,⟨by show 0<2^38;decide,λm hm=>absurd hm (by simp[cuQ]),λm hm=>absurd hm (by simp[cuQ])⟩⟩
 ·(have:a=fA cuF:=by simpa[cuQ,cuX,FQry.q,FGrp.g] using ha);rw[this];exact fw.mono (by decide)
 ·(have:a=fA cuF:=by simpa[cuQ,cuX,FQry.q,FGrp.g] using ha);rw[this];exact fw.mono (by decide)
 ·(have:a=zI ((0:Int):Rat):=by simpa[cuQ,cuX,FQry.q,FReg.g] using ha);rw[this];exact (f3 0 (by decide)).mono (by decide)
 ·(have:a=zI ((3:Int):Rat):=by simpa[cuQ,cuX,FQry.q,FReg.g] using ha);rw[this];exact (f3 3 (by decide)).mono (by decide)
def cuL:List Row:=[⟨1,0,0,0⟩,⟨2,0,0,0⟩,⟨5,0,0,0⟩,⟨6,0,0,0⟩]
def Zr:cuQ.all=cuL:=by decide +kernel
def Tg:cuQ.q.valid=true:=by decide +kernel
def tF (f:F):List (Int×Rat)×Rat:=(f.ts,f.c)
def CD {a b:F}(h:tF a=tF b):a=b:=by obtain⟨x,y⟩:=a;obtain⟨z,w⟩:=b;cases h;rfl
def Th:cuL.map (λr=>(cuQ.fm r).getD F.zero)=cxG:=(List.map_inj_right (f:=tF) (λ_ _ h=>CD h)).1 (by decide +kernel)
def Ti:Bnd6 cuQ:=⟨Nv,by decide,by decide,by decide,by decide,by rw[Zr];decide⟩
def Nx:cuQ.forms=cxG.map fA:=by unfold Scp.forms;rw[Zr,<-Th,Ki];rfl
def Nw {r:Row}(h:r∈cuQ.all):(cuQ.fm r).getD F.zero∈cxG:=by rw[<-Th];rw[Zr] at h;exact y9.2 ⟨r,h,rfl⟩
def cuV (pt:List Rat) (r:Row):Rat:=((cuQ.fm r).getD F.zero).at (xr pt)
def FG (pt:List Rat)(l:List Mult)(hl:pt.length=2)(hf:∀ q,q∈pt->Fits 1 q)(h:l6 (cuV pt) cuL=l)(h1:l.length<=1):zE 14 [sv cuQ,rlv (pt.map zI)] (wR (l.map Mult.row)):=by
 have h':l6 (cuV pt) cuQ.all=l:=by rw[Zr];exact h
 refine Bg cuQ (pt.map zI) (cuV pt) l Ti Tg (by rw[yN,hl];rfl) (λr hr=>?_) (by rw[h'];exact CT l h1) (by rw[h']);obtain⟨g1,g2⟩:=mH _ (wJ _ (Nw hr));exact PY _ pt (k:=1) (n:=4) (m:=1) g1 (by rw[hl];exact g2) hf (by decide) (by decide) (by decide) (by decide) (by rw[hl];decide)
def W4 {f:F}(h:f∈cxN::cxG):(fA f).sz 1:=((mH f h).1.fit (by decide)).fA
def FH (f:F)(h:f∈cxN::cxG)(fs:List F)(hs:∀ g,g∈fs->g∈cxN::cxG)(hl:fs.length<=4):(⟨2,fs.map fA,fA f⟩:Prg).sz (2^32)/\(⟨2,fs.map fA,fA f⟩:Prg).valid=true:=by refine⟨⟨⟨by show (fs.map fA).length<_;rw[yN];omega,λa ha=>?_⟩,(W4 h).mono (by decide)⟩,?_⟩;{obtain⟨g,hg,rfl⟩:=y9.1 ha;exact (W4 (hs g hg)).mono (by decide)};{unfold Prg.valid;simp only[yS,decide_eq_true_eq,gH];refine⟨⟨⟨by decide,by decide,by show (fs.map fA).length<=_;rw[yN];omega⟩,(mH f h).2.valid⟩,λa ha=>?_⟩;obtain⟨g,hg,rfl⟩:=y9.1 ha;exact (mH g (hs g hg)).2.valid}
def Tj (f:F)(h:f∈cxN::cxG):zE 9 [sv cuQ,av (fA f)] (.tup [.agg (pcv 2 (cxG.map fA) (fA f).ts (fA f).c),wR cuL,iV 0]):=by have k:=HK cuQ (fA f) Ti ((W4 h).mono (by decide)) Tg (mH f h).2.valid;unfold cuP at k;rw[Nx,Zr] at k;exact k
def Tl (f:F)(h:f∈cxN::cxG)(s0 s1:SolR)(q0:Sound 111 [pgo 1000009 (prg 2 cxF f)] (rwO 1000009 (cxF.map fA)) [] (.tup [slv s0,iV 0]) (rwO 1000009 (cxF.map fA)) []) (q1:s0.st=3->Sound 111 [pgo 1000009 (prg 2 cxG f)] (rwO 1000009 (cxG.map fA)) [] (.tup [slv s1,iV 0]) (rwO 1000009 (cxG.map fA)) []/\s1.st=3) (vio:s0.st=1->zE 14 [sv cuQ,rlv (s0.pt.map zI)] (wR [])) (st:s0.st=1\/s0.st=3) (fit:s0.du.length<=3/\∀ q,q∈s0.du->Fits (2^20) q) (l0:s0.pt.length<2^38/\s0.du.length<2^38/\s0.ry.length<2^38/\s0.bas.length<2^38) (l1:s1.pt.length<2^38/\s1.du.length<2^38/\s1.ry.length<2^38/\s1.bas.length<2^38):LpF cuQ (fA f) cuL (cxG.map fA) s0 s1 where
 prg:=Tj f h
 val:=by obtain⟨v1,v2⟩:=FH f h cxG (λg hg=>wJ _ hg) (by decide);have k:=KV _ v1;rw[v2] at k;exact k
 new:=by obtain⟨v1,v2⟩:=FH f h [] (λg hg=>absurd hg (by simp)) (by decide);exact La _ v1 (by show 0<2^28;decide) v2
 len:=⟨rfl,rfl⟩
 ear:=λi r hr=>by
  (have k:=MA r;have hi:=(wI.1 hr).1;have:i=0\/i=1\/i=2\/i=3:=by have:i<4:=hi;omega);rcases this with rfl|rfl|rfl|rfl <;> (cases hr;exact k)
 ok:=λi a ha=>by obtain⟨g,hg,rfl⟩:=y9.1 (z8 ha);exact⟨(W4 (wJ _ hg)).mono (by decide),(mH g (wJ _ hg)).2.valid⟩
 q0:=q0
 q1:=q1
 vio:=vio
 st:=st
 fit:=fit
 l0:=l0
 l1:=l1
def Oi:∀ q,q∈[(0:Rat),0]->Fits 1 q:=λq hq=>by
 have h:q=0:=by simpa using hq
 rw[h];exact xT (by decide)
def Ek:∀ q,q∈cxP.du->Fits (2^20) q:=λq hq=>by
 have h:q=0\/q=1:=by simpa[cxP,or_assoc] using hq
 rcases h with rfl|rfl;{exact xT (by decide)};{exact fits_one.mono (by decide)}
def Em:zE 23 [sv cuQ,av (fA cxO)] (.tup [.agg (ptv (lpR cuL cxP)),iV 0]) :=
 P4 (Tl cxO Q2 cxP cxP Ej (λh=>by cases h) (λ_=>FG [0,0] [] rfl Oi (by decide +kernel) (by decide)) (.inl rfl) ⟨by decide,Ek⟩ ⟨by decide,by decide,by decide,by decide⟩ ⟨by decide,by decide,by decide,by decide⟩)
def El:zE 23 [sv cuQ,av (fA cxN)] (.tup [.agg (ptv (lpR cuL cxT)),iV 0]) :=
 P4 (Tl cxN wZ cxT cxT Ei (λ_=>⟨Eh,rfl⟩) (λh=>by cases h) (.inr rfl) ⟨by decide,λq hq=>by simp[cxT] at hq⟩ ⟨by decide,by decide,by decide,by decide⟩ ⟨by decide,by decide,by decide,by decide⟩)
def Oj:zE 14 [sv cuQ,rlv [zI 3,zI 1]] (wR [⟨6,0,0,0⟩]) :=
 FG [3,1] [⟨⟨6,0,0,0⟩,zI (-1)⟩] rfl (λq hq=>by
  (have:q=3\/q=1:=by simpa using hq);rcases this with rfl|rfl <;> exact⟨by decide,by decide⟩) (by decide +kernel) (by decide)
def Lz:zE 21 [] (sv cuQ):=by
 refine sF Tryz.f21 ?_;have c1:=s32 1 (by decide) (by decide);have cm:=s32 (-1) (by decide) (by decide);have c3:=s32 3 (by decide) (by decide);generalize hO:zI ((1:Int):Rat)=O at *;generalize hN:zI ((-1:Int):Rat)=N at *;generalize hT:zI ((3:Int):Rat)=T at *;have eQ:cuQ=⟨⟨⟨1,[⟨[(0,O)],N⟩],[⟨[(0,O)],N⟩]⟩,⟨[R0],[T],[]⟩,⟨[],R0⟩⟩,[],[]⟩:=by rw[<-hO,<-hN,<-hT];exact congrArg (λz=>(⟨⟨⟨1,[fA cuF],[fA cuF]⟩,⟨[z],[zI ((3:Int):Rat)],[]⟩,⟨[],z⟩⟩,[],[]⟩:Scp)) vR
 rw[eQ];clear eQ hO hN hT;cbv;refine cA c1 ?_;cbv;refine cA cm ?_;cbv;refine zP 12 (by cbv) ?_;cbv;refine dA c3 ?_;cbv
 (refine rC ?_;cbv)
 repeat' first|exact trivial|exact lR|exact zT rfl|exact xD rfl|exact zN rfl|apply And.intro
def P5:zE 6 [] (zM true):=by
 refine sF Tryz.f6 ?_;have cx:=Lz;have cv:=ZQ 1;have cp:=Tj cxO Q2;have cl1:=Em;have cl2:=El;have c1:=s32 1 (by decide) (by decide);have cm:=s32 (-1) (by decide) (by decide);have c3:=s32 3 (by decide) (by decide);have cs:=oO (fA cxO) (zI ((-1:Int):Rat)) ((W4 Q2).mono (by decide)) ((zX (nE (z:=-1) (by decide) (yX 1))).mono (by decide));have cvi:=Oj;have cg:=s35 (zI 0) (by rw[vR];decide);rw[z7,show yF 0=0 from by decide +kernel] at cg;rw[show (fA cxO).f.scale (zI ((-1:Int):Rat)).q=cxN from CD (by rw[z7];decide +kernel)] at cs;have e1:lpR cuL cxP=(cxP,(kD (i5 (cuL.take 3) cxP.du)).2):=if_neg (by decide);have e2:lpR cuL cxT=(⟨3,0,[],[],[],[],0⟩,[]):=if_pos rfl;rw[e1] at cl1;rw[e2] at cl2;generalize (kD (i5 (cuL.take 3) cxP.du)).2=PF at *;have cl1:zE 23 [sv cuQ,av (fA cxO)] (.tup [.agg [iV 1,zM ((zI 0).neg),nat (zI 0).num,nat (zI 0).den,qlv [0,0],mlv (mR PF)],iV 0]):=cl1;have cl2:zE 23 [sv cuQ,av (fA cxN)] (.tup [.agg [iV 3,zM ((zI 0).neg),nat (zI 0).num,nat (zI 0).den,qlv [],mlv (mR [])],iV 0]):=cl2;have cv:zE 22 [iV 1] (av (fA cxO)):=cv;have cs:zE 24 [av (fA cxO),rv (zI ((-1:Int):Rat))] (av (fA cxN)):=cs;have cvi:zE 14 [sv cuQ,rlv [zI ((3:Int):Rat),zI ((1:Int):Rat)]] (wR [⟨6,0,0,0⟩]):=cvi;clear e1 e2;generalize zI ((1:Int):Rat)=O at *;generalize zI ((-1:Int):Rat)=N at *;generalize zI ((3:Int):Rat)=T at *;generalize zI (0:Rat)=Z at *;generalize hFS:cxG.map fA=FS at *;have hFl:FS.length=4:=by rw[<-hFS];rfl
 clear hFS;generalize fA cxO=X1 at *;generalize fA cxN=X2 at *;generalize (mR PF)=P1 at *;generalize (mR [])=P2 at *;obtain⟨xt,xc⟩:=X1;obtain⟨yt,yc⟩:=X2;generalize cuQ=Q at *;obtain⟨⟨⟨n,us,os⟩,⟨lo,hi,rows⟩,⟨gts,gc⟩⟩,path,lems⟩:=Q;dsimp only at cx cp cl1 cl2 cv cs cvi;cbv;refine cA cx ?_;cbv;refine cA cv ?_;cbv;refine cA cp ?_;cbv;refine cA cl1 ?_;cbv;refine uI 10 [(9,8)] (by cbv) (by cbv) (by cbv) ?_;cbv;refine dA cm ?_;cbv;refine dA cs ?_;cbv;refine dA cl2 ?_;cbv;refine zP 5 (by cbv) ?_;cbv;refine dA c3 ?_;cbv;refine dA c1 ?_;cbv;refine wH (by repeat' first|exact trivial|exact lR|exact zT rfl|apply And.intro) cvi rfl ?_;clear cx cv cp cl1 cl2 c1 cm c3 cs cvi;cbv;have i0:([⟨6,0,0,0⟩]:List Row)[0]?=some ⟨6,0,0,0⟩:=rfl
 repeat' first
  |(refine Ql ?_;cbv)
  |(refine wO (by first|decide|(rw[zB,hFl];rfl)|(rw[zB];rfl)|rfl) ?_;cbv)
  |(refine yT i0 gP dF ?_;cbv)
  |(refine QU (a:=⟨6,0,0,0⟩) (b:=⟨6,0,0,0⟩) ?_;cbv)
  |(refine xE rfl (by repeat' first|exact trivial|exact lR|exact zT rfl|exact yL rfl|exact zN rfl|exact xD rfl|exact zG rfl|apply And.intro) cg rfl ?_;cbv)
 exact rA
def Nu (raw:List UInt8)(b:Bool):LB KK (cuS raw b).lems:=by
 cases b with
 |true=>exact (t6 raw).lb| false=>exact λm hm=>absurd hm (by simp[cuS,fdS])
def A2 {raw:List UInt8}{b:Bool}{r:Row}{f:F}(h:(cuS raw b).fm r=some f):f.fl 2718660 3000 :=
 Gg (s:=cuS raw b) (x:=(fdY raw 0).1) (JT raw b) (vD raw 0) (by rw[JU];exact (WK raw).path) (Nu raw b) h
def FE (raw:List UInt8)(b:Bool)(r:Row):(fA (((cuS raw b).fm r).getD F.zero)).sz 2718660:=by
 cases h:(cuS raw b).fm r with
 |some f=>exact ((A2 h).fit (by decide)).fA| none=>exact⟨⟨by show 0<2^38;decide,λt ht=>absurd ht (by simp[fA,F.zero,tR])⟩,zX (xT (by decide))⟩
def W6 (a:Rat):wN a a=0:=by unfold wN;split <;> (try split) <;> grind
theorem A.sz.cq {a:A}(h:a.sz (2^31)):a.cq:=⟨by have:=s42 a.c a.c h.c h.c;rwa [W6] at this,λt ht=>by have:=s42 t.2 t.2 (h.t.sz t ht) (h.t.sz t ht);rwa [W6] at this,h.t.len⟩
def GV (l:List Row)(hl:l.length<=1000):zE 12 [wR l,wR l] (zM true):=by
 refine sF Tryz.f12 ?_;cbv;refine zH (λ_=>?_) (λh=>(h rfl).elim);cbv;refine zZ (σ:=Nat) (λi=>⟨[(0,wR l),(1,wR l),(5,iV i)],[]⟩) (λi=>i<=l.length) (λi=>l.length-i) 0 (xK _) (wkZ) ?_;intro i hi;cbv;refine zH (λh=>?_) (λh=>?_)
 ·(have hlt:i<l.length:=by rw[zB] at h;exact om);obtain⟨r,g⟩:=zY hlt
  cbv;refine zP 9 (by cbv) ?_;cbv;refine yT g gP dF ?_;cbv;refine yT g gP dF ?_;cbv;refine BU (a:=r) (b:=r) ?_;cbv;refine pA (by simp) ?_;cbv;exact⟨zF om om,i+1,(by show i+1<=l.length;omega),(by show l.length-(i+1)<l.length-i;omega),wkZ⟩
 {cbv;exact rA}
def Pr (raw:List UInt8)(b:Bool)(f:A)(hf:f.sz (2^20)):∃ (P:Prg) (L:List Row) (e:Int),zE 9 [sv (cuS raw b),av f] (.tup [pgv P,wR L,iV e]) /\ zE 10 [sv (cuS raw b),av f] (.tup [pgv P,wR L,iV e])/\zE 11 [pgv P,pgv P] (zM true)/\zE 12 [wR L,wR L] (zM true):=by
 have hb:=Q4 raw b;have hv:=lM raw b;by_cases hfv:f.valid (cuS raw b).q.g.vars=true;{refine⟨cuP (cuS raw b) f,(cuS raw b).all,0,HK _ f hb (hf.mono (by decide)) hv hfv,Ry _ f hb (hf.mono (by decide)) hv hfv,C7 _ ?_ (λa ha=>?_) (hf.mono (by decide)).cq,GV _ hb.l⟩;{have:=hb.l;show ((cuS raw b).all.map _).length<_;rw[yN];omega};{obtain⟨r,hr,rfl⟩:=y9.1 ha;exact ((FE raw b r).mono (by decide)).cq}}
 ·have h0:((cuS raw b).q.valid&&f.valid (cuS raw b).q.g.vars)=false:=by
   cases h:f.valid (cuS raw b).q.g.vars with
   |true=>exact absurd h hfv| false=>exact Bool.and_false _
  refine⟨Kt,[],1,G5 _ f hb.sz (hf.mono (by decide)) h0,C6 _ f hb.sz (hf.mono (by decide)) h0,C7 _ (by decide) (λa ha=>absurd ha (by simp[Kt])) ?_,GV [] (by decide)⟩;have h1:(fA F.zero).sz (2^31):=⟨⟨by show 0<2^38;decide,λt ht=>absurd ht (by simp[fA,F.zero,tR])⟩,zX (xT (by decide))⟩;have e:fA F.zero=⟨[],R0⟩:=congrArg (A.mk []) vR;rw[e] at h1;exact h1.cq
def badS:Scp:=⟨⟨⟨-1,[],[]⟩,⟨[],[],[]⟩,⟨[],R0⟩⟩,[],[]⟩
def Px:badS.sz (2^20):=by have h1:(fA F.zero).sz (2^20):=⟨⟨by show 0<2^38;decide,λt ht=>absurd ht (by simp[fA,F.zero,tR])⟩,zX (xT (by decide))⟩;have e:fA F.zero=⟨[],R0⟩:=congrArg (A.mk []) vR;rw[e] at h1;have hA:Asz (2^20) []:=⟨by decide,λa ha=>absurd ha (by simp)⟩;have hR:Rsz (2^20) []:=⟨by decide,λa ha=>absurd ha (by simp)⟩;exact⟨⟨⟨hA,hA⟩,⟨hR,hR,hA⟩,h1⟩,⟨by decide,λa ha=>absurd ha (by simp[badS])⟩,⟨by decide,λa ha=>absurd ha (by simp[badS]),λa ha=>absurd ha (by simp[badS])⟩⟩
def Mu (raw:List UInt8)(b:Bool)(f:A)(hr:raw.length<=2^20)(hf:f.bk (2^20)):zE 3 [u8l raw,zM b,av f] (zM true):=by
 have hz:f.sz (2^20):=hf.sz (by decide) (by decide);refine sF Tryz.f3 ?_;have ca:=P5;have cF:=Lm f (hz.mono (by decide));by_cases h2:200<raw.length;{obtain⟨ts,c⟩:=f;clear cF;cbv;refine cA ca ?_;cbv;refine s4 rfl ?_;cbv;refine wO (by rw[zB];exact om) ?_;cbv;exact rA};have cP:=KT raw (xQ hr (by decide)) b;obtain⟨P,L,e,c1,c2,c3,c4⟩:=Pr raw b f hz;have c0:=G5 badS f Px (hz.mono (by decide)) (by rw[show badS.q.valid=false from by decide +kernel];rfl);clear hf hz;have cP:zE 8 [u8l raw,zM b] (sv (cuS raw b)):=cP;have c0:zE 9 [.agg [iV (-1),alv [],alv [],rlv [],rlv [],alv [],tsv [],zM false,nat [],nat [],dlv [],llv []],av f] (.tup [pgv Kt,wR [],iV 1]):=c0;generalize cuS raw b=S at *;generalize f.small=sm at *;obtain⟨⟨⟨n,us,os⟩,⟨lo,hi,rows⟩,⟨gts,gc⟩⟩,path,lems⟩:=S;obtain⟨v,rs,⟨ots,oc⟩⟩:=P;obtain⟨ts,c⟩:=f
 try dsimp only at cF
 try dsimp only at cP c1 c2
 try dsimp only at c3
 try dsimp only at c0
 cbv;refine cA ca ?_;cbv;refine s4 rfl ?_;cbv;refine yG (by rw[zB];exact om) ?_;cbv;refine cA cF ?_;cbv;refine zS (λe1=>?_) (λe1=>?_)
 ·cbv;refine cA cP ?_;cbv;refine cA c1 ?_;cbv;refine cA c2 ?_;cbv;refine cA c0 ?_;clear ca cF cP c1 c2 c0;cbv
  repeat' first
   |(refine Ql ?_;cbv)
   |(refine wO rfl ?_;cbv)
   |(refine Zy rfl ?_;cbv)
   |(refine xE rfl okA (c3) rfl ?_;cbv)
   |(refine xE rfl okA (c4) rfl ?_;cbv)
  (refine rC ?_;cbv)
  exact z4 (by rfl)
 {cbv;exact rA}
end Go.Proofs.YtboocdbmnfjomaaGreat
