/- A part of the proof: CtE, CtF, CtG, CtH, CtI. -/
import Derived.Test.YtboocdbmnfjomaaGreatV38
import Derived.Test.YtboocdbmnfjomaaGreatV37
import Derived.Test.YtboocdbmnfjomaaGreatV27
import Derived.Test.YtboocdbmnfjomaaGreatV25
import Derived.Test.YtboocdbmnfjomaaGreatV31
import Derived.Test.YtboocdbmnfjomaaGreatV32
import Derived.Test.YtboocdbmnfjomaaGreatV30
set_option linter.all false
namespace Go.Proofs.YtboocdbmnfjomaaGreat
open Go
set_option maxRecDepth 100000
set_option maxHeartbeats 8000000
def cbc (b:Bool):List PV:=[zM b]
structure CW where
 us:List A
 sd:Bool
 st:Int
 z:R
 pt:List Rat
 du:List Rat
 ry:List Rat
 bas:List Nat
 pv:Int
abbrev cwB (n:Nat) (v:Int) (ots:List (Int×R)) (oc:R) (t:CW):List PV:=wC n v t.us ots oc t.sd t.st t.z t.pt t.du t.ry t.bas t.pv 0
def CW.add (t:CW) (a:A):CW:={ t with us:=t.us++[a],sd:=false }
abbrev pcv (v:Int) (FS:List A) (ots:List (Int×R)) (oc:R):List PV:=[iV v,alv FS,tsv ots,zM oc.neg,nat oc.num,nat oc.den]
abbrev cuK (IN : List Bool) (US L : List Row) (v : Int) (FS : List A) (ots : List (Int × R)) (oc : R) (t : CW) : List (Nat × Obj') :=
  [(1000000, .box [zT 1000005 1 IN.length]), (1000001, .box [zT 21 4 US.length]), (1000002, .box [x9 L]), (1000003, .box [.ptr 1000006 0]), (1000004, .box (pcv v FS ots oc)),
   (1000005, zW 1 (enc cbc IN)), (1000006, .box (cwB 31 v ots oc t))]
abbrev cuE (US:List Row) (us:List A):List (Nat×Obj'):=[(21,zW 4 (enc rwc US)),(31,zW 4 (enc ac us))]
abbrev cuA (i:Nat):List PV:=[iV i,.ptr 1000000 0,.ptr 1000001 0,.ptr 1000002 0,.ptr 1000003 0,.ptr 1000004 0]
def BA {l:List Bool}{i i':Nat}{x:Bool}{K:List PV->Prop}(h:l[i]?=some x)(hi:i'=i)(hK:K [zM x]):ElOk 1 (λ_=>enc cbc l) (λ_=>i') K :=
 K8 i hi (cbc x) rfl rfl (by unfold enc;rw[jJ,h];rfl) hK
def Gs:Pg.funcs[62]?=some Tryz.f62:=by rw[vI];rfl
def Se (i:Nat)(IN:List Bool)(US L:List Row)(v:Int)(FS:List A)(ots:List (Int×R))(oc:R)(t:CW)(hi:IN[i]?=some true):Sound 62 (cuA i) (cuK IN US L v FS ots oc t) (cuE US t.us) (.tup []) (cuK IN US L v FS ots oc t) (cuE US t.us):=by have hlt:=(w8.1 hi).1;refine xB Gs rfl rfl rfl rfl rfl ?_;obtain⟨us,sd,st,z,pt,du,ry,bas,pv⟩:=t;cbv;refine⟨z9 om om,?_⟩;refine BA hi om ?_;cbv;refine tD rfl ?_;cbv;refine rY id (.refl _) rfl okR (by rfl) okR ?_;cbv
def H1 (i:Nat)(IN:List Bool)(US L:List Row)(v:Int)(FS:List A)(ots:List (Int×R))(oc:R)(t:CW)(r:Row)(a:A)(hi:IN[i]?=some false)(hr:L[i]?=some r)(ha:FS[i]?=some a) (hsz:a.sz (2^32)) (hv:a.valid v=true) (hu:t.us.length<4096) (hU:US.length<4096) (hn:¬(t.sd=true/\t.st=2)):Sound 62 (cuA i) (cuK IN US L v FS ots oc t) (cuE US t.us) (.tup []) (cuK (IN.set i true) (US++[r]) L v FS ots oc (t.add a)) (cuE (US++[r]) (t.add a).us):=by
 have hlt:=(w8.1 hi).1;have ca:=Po a v t.us ots oc t.sd t.st t.z t.pt t.du t.ry t.bas t.pv hsz hv hu hn;refine xB Gs rfl rfl rfl rfl rfl ?_;obtain⟨us,sd,st,z,pt,du,ry,bas,pv⟩:=t;unfold CW.add;dsimp only at *;have e1:(enc cbc IN).set i [D.bool true]=enc cbc (IN.set i true):=aM cbc IN i true;have e2:enc rwc US++zI [rwc r]=enc rwc (US++[r]):=by rw[<-z3];rfl
 have e3:(US++[r]).length=US.length+1:=by rw[alT53];rfl
 have e4:(IN.set i true).length=IN.length:=dV;generalize IN.set i true=IN' at *;generalize US++[r]=US' at *;generalize us++[a]=us' at *;obtain⟨ats,acc⟩:=a;have ca':Sound 63 [.ptr 1000000 0,.agg [tsv ats,zM acc.neg,nat acc.num,nat acc.den]] [(1000000,.box (wC 31 v us ots oc sd st z pt du ry bas pv 0))] [(31,zW 4 (enc ac us))] (iV 0) [(1000000,.box (wC 31 v us' ots oc false st z pt du ry bas pv 0))] [(31,zW 4 (enc ac us'))]:=ca;clear ca hsz hv hu hn;cbv;refine⟨z9 om om,?_⟩;refine BA hi om ?_;cbv;refine m0 rfl ?_;cbv;refine⟨z9 om om,?_⟩;refine BA hi om ?_;cbv;refine zP 6 (by cbv) ?_;cbv;refine xL hr k7 u6 ?_;cbv;refine xE s9 rfl rfl rfl (by rw[zB]) rfl ⟨by simp[zI,y7]⟩ (zV (by simp[zI] <;> omega) (by simp[zI,zB];exact om)) rfl ?_;cbv;refine zP 6 (by cbv) ?_;cbv;refine xL ha kX fI ?_;cbv;refine kA (λn=>match nqb n 1000000 with|true=>1000006|false=>n) ca' ?_;cbv;refine rY (ps':=⟨[],cuK IN' US' L v FS ots oc ⟨us',false,st,z,pt,du,ry,bas,pv⟩++cuE US' us'⟩) id (.le (by cbv) (by
  cbv
  repeat' first|exact trivial|exact lR|exact zR rfl e4.symm|exact zR rfl (by rw[zB,e3];rfl)|exact zC rfl|exact zC e1|exact zC (by show (enc cbc IN).set (0+((i:Nat):Int).toNat) [D.bool true]=enc cbc IN';rw[wQ,uF];exact e1)|exact zC e2|exact zO rfl|exact z4 rfl|apply And.intro) rfl) rfl okR (by rfl) okR ?_
 cbv
structure LpF (s:Scp) (f:A) (L:List Row) (FS:List A) (s0 s1:SolR):Prop where
 prg:zH 9 [sv s,av f] (.tup [.agg (pcv 2 FS f.ts f.c),x9 L,iV 0])
 val:zH 60 [.agg (pcv 2 FS f.ts f.c)] (zM true)
 new:Sound 61 [.agg (pcv 2 [] f.ts f.c)] [] [] (.tup [.ptr 10 0,iV 0]) [] [(10,.box (Al 8 2 [] f.ts f.c)),(8,zW 4 (enc ac []))]
 len:L.length=4/\FS.length=4
 ear:∀ (i:Nat) r,L[i]?=some r->zH 64 [rwv r] (zM (decide (i<3)))
 ok:∀ (i:Nat) a,FS[i]?=some a->a.sz (2^32)/\a.valid 2=true
 q0:Sound 111 [pgo 1000009 ⟨2,FS.take 3,f⟩] (rwO 1000009 (FS.take 3)) [] (.tup [slv s0,iV 0]) (rwO 1000009 (FS.take 3)) []
 q1:s0.st=3->Sound 111 [pgo 1000009 ⟨2,FS,f⟩] (rwO 1000009 FS) [] (.tup [slv s1,iV 0]) (rwO 1000009 FS) []/\s1.st=3
 vio:s0.st=1->zH 14 [sv s,rlv (s0.pt.map zK)] (x9 [])
 st:s0.st=1\/s0.st=3
 fit:s0.du.length<=3/\∀ q,q∈s0.du->Fits (2^20) q
 l0:s0.pt.length<2^38/\s0.du.length<2^38/\s0.ry.length<2^38/\s0.bas.length<2^38
 l1:s1.pt.length<2^38/\s1.du.length<2^38/\s1.ry.length<2^38/\s1.bas.length<2^38
def lpR (L:List Row) (s0:SolR):SolR×List (Row×Rat):=if s0.st=3 then (⟨3,0,[],[],[],[],0⟩,[]) else (s0,(kD (iK (L.take 3) s0.du)).2)
def ptv (x:SolR×List (Row×Rat)):List PV:=[iV x.1.st,zM ((zK x.1.val).neg),nat (zK x.1.val).num,nat (zK x.1.val).den,qlv x.1.pt,mlv (mR x.2)]
def inA (i:Nat):List Bool:=[decide (0<i),decide (1<i),decide (2<i),false]
def oU (i:Nat):List Bool:=[true,true,true,decide (3<i)]
def nB (i:Nat):Nat:=if i<4 then 3 else 4
def CZ (i:Nat)(h:i<3):(inA i)[i]?=some false/\(inA i).set i true=inA (i+1):=by
 have:i=0\/i=1\/i=2:=by omega
 rcases this with rfl|rfl|rfl <;> exact⟨rfl,rfl⟩
def Gp (i:Nat)(h:i<3):(oU i)[i]?=some true/\oU i=oU (i+1):=by
 have:i=0\/i=1\/i=2:=by omega
 rcases this with rfl|rfl|rfl <;> exact⟨rfl,rfl⟩
def cwU (us:List A):CW:=⟨us,false,0,⟨false,[],[]⟩,[],[],[],[],0⟩
def cwV (us:List A) (s:SolR) (sd:Bool):CW:=⟨us,sd,s.st,zK s.val,s.pt,s.du,s.ry,s.bas,s.pv⟩
abbrev lpO (bx : List PV) (IN : List Bool) (US L : List Row) (FS : List A) (ots : List (Int × R)) (oc : R) (t : CW) : List (Nat × Obj') :=
  [(2, .box bx), (4, .box [iV 0, .ff, .nil, .nil, .nil, .nil]), (12, .box [zT 46 1 IN.length]), (11, .box [zT 21 4 US.length]), (7, .box [x9 L]), (9, .box [.ptr 10 0]), (6, .box (pcv 2 FS ots oc)),
   (46, zW 1 (enc cbc IN)), (10, .box (cwB 31 2 ots oc t)), (21, zW 4 (enc rwc US)), (31, zW 4 (enc ac t.us))]
abbrev lpF:PV:=.fn 62 [.ptr 12 0,.ptr 11 0,.ptr 7 0,.ptr 9 0,.ptr 6 0]
abbrev lpT:List (Nat×PV):=[(2,.ptr 2 0),(4,.ptr 4 0),(7,.ptr 7 0),(9,.ptr 9 0),(11,.ptr 11 0),(13,.fn 62 [.ptr 12 0,.ptr 11 0,.ptr 7 0,.ptr 9 0,.ptr 6 0])]
def Re {s : Scp} {f : A} {L : List Row} {FS : List A} {s0 s1 : SolR} (H : LpF s f L FS s0 s1) : zH 23 [sv s, av f] (.tup [.agg (ptv (lpR L s0)), iV 0]) := by
  refine sF Tryz.f23 ?_
  obtain ⟨c1, c2, c3, ⟨hL, hF⟩, ce, hok, q0, q1, cv, hst, ⟨hd1, hd2⟩, ⟨k1, k2, k3, k4⟩, ⟨m1, m2, m3, m4⟩⟩ := H
  obtain ⟨ts, c⟩ := f
  try dsimp only at c1 c2 c3
  have cpf := PK (L.take 3) s0.du (by rw [xP]; omega) oM hd2
  have w0 := DI 2 (FS.take 3) ts c 0 ⟨false, [], []⟩ [] [] [] [] 0 0 s0 q0 k1 k2 k3 k4
  have w1 := fun h => DI 2 FS ts c s0.st (zK s0.val) s0.pt s0.du s0.ry s0.bas s0.pv 0 s1 (q1 h).1 m1 m2 m3 m4
  have hs1 := fun h => (q1 h).2
  have eL : ∀ (i : Nat) r, L[i]? = some r → L.take i ++ [r] = L.take (i + 1) := fun i r h => by rw [rJ, h]; rfl
  have eF : ∀ (i : Nat) a, FS[i]? = some a → FS.take i ++ [a] = FS.take (i + 1) := fun i a h => by rw [rJ, h]; rfl
  have a0 : ∀ (i : Nat) r a, i < 3 → L[i]? = some r → FS[i]? = some a → Sound 62 (cuA i) (cuK (inA i) (L.take i) L 2 FS ts c (cwU (FS.take i))) (cuE (L.take i) (FS.take i)) (.tup []) (cuK (inA (i + 1)) (L.take (i + 1)) L 2 FS ts c (cwU (FS.take (i + 1)))) (cuE (L.take (i + 1)) (FS.take (i + 1))) := fun i r a h hr ha => by
    have k := H1 i (inA i) (L.take i) L 2 FS ts c (cwU (FS.take i)) r a (CZ i h).1 hr ha (hok i a ha).1 (hok i a ha).2 (by show (FS.take i).length < 4096; rw [xP]; omega) (by rw [xP]; omega) (fun h => by cases h.1)
    rw [(CZ i h).2, eL i r hr, show (cwU (FS.take i)).add a = cwU (FS.take (i + 1)) from congrArg cwU (eF i a ha)] at k
    exact k
  have a1 : ∀ (i : Nat), i < 3 → _ := fun i h => Se i (oU i) (L.take 3) L 2 FS ts c (cwV (FS.take 3) s0 true) (Gp i h).1
  have a2 : ∀ r a, s0.st = 3 → L[3]? = some r → FS[3]? = some a → Sound 62 (cuA 3) (cuK (oU 3) (L.take 3) L 2 FS ts c (cwV (FS.take 3) s0 true)) (cuE (L.take 3) (FS.take 3)) (.tup []) (cuK (oU 4) L L 2 FS ts c (cwV FS s0 false)) (cuE L FS) := fun r a h hr ha => by
    have k := H1 3 (oU 3) (L.take 3) L 2 FS ts c (cwV (FS.take 3) s0 true) r a rfl hr ha (hok 3 a ha).1 (hok 3 a ha).2 (by show (FS.take 3).length < 4096; rw [xP]; omega) (by rw [xP]; omega) (fun w => by have := w.2; rw [show (cwV (FS.take 3) s0 true).st = ((s0.st : Nat) : Int) from rfl, h] at this; cases this)
    have e1 : L.take 4 = L := yU oM
    have e2 : FS.take 4 = FS := yU oM
    rw [show (oU 3).set 3 true = oU 4 from rfl, eL 3 r hr, show (cwV (FS.take 3) s0 true).add a = cwV (FS.take 4) s0 false from congrArg (fun x => cwV x s0 false) (eF 3 a ha), e1, e2] at k
    exact k
  obtain ⟨RR, hRR⟩ := ex (lpR L s0)
  have hR3 : s0.st = 3 → RR = (⟨3, 0, [], [], [], [], 0⟩, []) := fun h => by rw [← hRR]; exact if_pos h
  have hR1 : s0.st = 1 → RR = (s0, (kD (iK (L.take 3) s0.du)).2) := fun h => by rw [← hRR]; exact if_neg oM
  rw [hRR]
  clear hRR q0 q1 hok k1 k2 k3 k4 m1 m2 m3 m4 eL eF hd2
  generalize (kD (iK (L.take 3) s0.du)).2 = PF at *
  have hqe : ∀ l : List Rat, enc cq l = enc rc (l.map zK) := fun l => by unfold enc; rw [QG]; rfl
  obtain ⟨⟨⟨n, us, os⟩, ⟨lo, hiR, rows⟩, ⟨gts, gc⟩⟩, path, lems⟩ := s
  try dsimp only at c1 cv
  cbv
  refine cA c1 ?_
  cbv
  refine xD rfl ?_
  cbv
  refine cA c2 ?_
  cbv
  refine tD rfl ?_
  cbv
  refine Yo (fun n => match nqb n 8 with | true => 31 | false => n) (.refl _) rfl okA c3 (by exact trivial) rfl rfl rfl rfl rfl rfl rfl rfl ?_
  clear c1 c2 c3
  cbv
  refine ⟨zV okQ okQ, uU okQ okQ, ?_⟩
  cbv
  refine zY (σ := Nat) (fun i => ⟨lpT ++ [(48, x9 L), (49, iV 4), (50, iV i)], lpO [iV n, alv us, alv os, rlv lo, rlv hiR, alv rows, tsv gts, zM gc.neg, nat gc.num, nat gc.den, dlv path, llv lems] (inA i) (L.take (min i 3)) L FS ts c (cwU (FS.take (min i 3)))⟩)
    (fun i => i ≤ 4) (fun i => 4 - i) 0 (xO _)
    (.trans (.le (ps' := ⟨lpT ++ [(48, x9 L), (49, iV 4), (50, iV (((0 : Nat) : Int)))], [(2, .box [iV n, alv us, alv os, rlv lo, rlv hiR, alv rows, tsv gts, zM gc.neg, nat gc.num, nat gc.den, dlv path, llv lems]), (4, .box [iV 0, .ff, .nil, .nil, .nil, .nil]), (12, .box [zT 46 1 4]), (11, .box [.nil]), (7, .box [x9 L]), (9, .box [.ptr 10 0]), (6, .box (pcv 2 FS ts c)),
   (46, zW 1 (enc cbc (inA 0))), (10, .box (cwB 31 2 ts c (cwU []))), (31, zW 4 (enc ac []))]⟩) (by cbv; repeat' first | exact trivial | exact lR | exact zF (by (try dsimp only [zS] at *); rw [zB]; omega) | (exact ⟨rfl, by repeat' first | exact trivial | exact lR | apply And.intro⟩) | apply And.intro)
      (by cbv; repeat' first | exact trivial | exact lR | exact zR rfl (by (try dsimp only [zS] at *); rw [zB, hL]; rfl) | exact zC (by (try dsimp only [zS] at *); rw [zB, hL]; rfl) | exact zC rfl | exact zO rfl | exact xC rfl | apply And.intro) rfl)
      (.trans (.adoptB (cs := [.nil]) 21 4 11 0 rfl rfl rfl)
      (.le (by cbv; repeat' first | exact trivial | exact lR | (exact ⟨rfl, by repeat' first | exact trivial | exact lR | apply And.intro⟩) | apply And.intro) (by cbv; repeat' first | exact trivial | exact lR | exact zR rfl rfl | exact zC rfl | apply And.intro) rfl))) ?_
  intro i hi
  cbv
  refine zG (fun h => ?_) (fun h => ?_)
  · have hlt : i < 4 := om
    obtain ⟨r, hr⟩ := yB (l := L) (i := i) oM
    obtain ⟨a, ha⟩ := yB (l := FS) (i := i) oM
    have ce' := ce i r hr
    by_cases h3 : i < 3
    · have k := a0 i r a h3 hr ha
      clear a0 a1 a2 ce w0 w1 cpf cv hs1
      rw [show min i 3 = i by omega]
      cbv
      refine xL hr k7 u6 ?_
      cbv
      refine cA ce' ?_
      cbv
      refine xD h3 ?_
      cbv
      refine kA Tg k ?_
      cbv
      refine ⟨zE om om, i + 1, hlt, by show 4 - (i + 1) < 4 - i; omega, ?_⟩
      rw [show min (i + 1) 3 = i + 1 by omega]
      exact (.le (by cbv; repeat' first | exact trivial | exact lR | exact zF om | (exact ⟨rfl, by repeat' first | exact trivial | exact lR | apply And.intro⟩) | apply And.intro) (by cbv; repeat' first | exact trivial | exact lR | exact zC rfl | exact zO rfl | exact yN rfl | apply And.intro) rfl)
    · have hi3 : i = 3 := by omega
      subst hi3
      clear a0 a1 a2 ce w0 w1 cpf cv hs1
      cbv
      refine xL hr k7 u6 ?_
      cbv
      refine cA ce' ?_
      cbv
      refine yA h3 ?_
      cbv
      exact ⟨zE om om, 4, by decide, by decide, (.le (by cbv; repeat' first | exact trivial | exact lR | exact zF om | (exact ⟨rfl, by repeat' first | exact trivial | exact lR | apply And.intro⟩) | apply And.intro) (by cbv; repeat' first | exact trivial | exact lR | exact zC rfl | exact zO rfl | exact yN rfl | apply And.intro) rfl)⟩
  · have hi4 : i = 4 := om
    subst hi4
    clear a0 ce
    cbv
    refine zY (σ := Bool) (fun b => match b with
      | false => ⟨lpT ++ [(16, .ptr 16 0)], lpO [iV n, alv us, alv os, rlv lo, rlv hiR, alv rows, tsv gts, zM gc.neg, nat gc.num, nat gc.den, dlv path, llv lems] (oU 0) (L.take 3) L FS ts c (cwU (FS.take 3)) ++ [(16, .box [iV 0, .ff, .nil, .nil, .nil, .nil, .nil, .nil, iV 0])]⟩
      | true => ⟨lpT ++ [(16, .ptr 16 0)], lpO [iV n, alv us, alv os, rlv lo, rlv hiR, alv rows, tsv gts, zM gc.neg, nat gc.num, nat gc.den, dlv path, llv lems] (oU 4) L L FS ts c (cwV FS s0 false) ++ [(16, .box (slc s0))]⟩) (fun b => b = true → s0.st = 3) (fun b => match b with | false => 1 | true => 0) false (fun h => by cases h) (.le (by cbv; repeat' first | exact trivial | exact lR | exact zF om | (exact ⟨rfl, by repeat' first | exact trivial | exact lR | apply And.intro⟩) | apply And.intro) (by cbv; repeat' first | exact trivial | exact lR | exact zC rfl | exact zO rfl | exact yN rfl | apply And.intro) rfl) ?_
    intro b hb
    cases b with
    | false =>
      clear w1 hb hi h
      cbv
      refine kA Ng w0 ?_
      clear w0
      cbv
      refine xD rfl ?_
      cbv
      refine yA (by rcases hst with e | e <;> (rw [e]; decide)) ?_
      cbv
      refine zG (fun h => ?_) (fun h => ?_)
      · have h3 : s0.st = 3 := by exact om
        cbv
        refine yA (by rw [zB, hL, xP, hL]; decide) ?_
        cbv
        refine zY (σ := Nat) (fun i => ⟨lpT ++ [(16, .ptr 16 0), (86, iV 4), (87, iV i)], lpO [iV n, alv us, alv os, rlv lo, rlv hiR, alv rows, tsv gts, zM gc.neg, nat gc.num, nat gc.den, dlv path, llv lems] (oU i) (L.take (nB i)) L FS ts c (cwV (FS.take (nB i)) s0 (decide (i < 4))) ++ [(16, .box (slc s0))]⟩)
          (fun i => i ≤ 4) (fun i => 4 - i) 0 (xO _) (.le (by cbv; repeat' first | exact trivial | exact lR | exact zF (by (try dsimp only [zS] at *); rw [zB, hL]; rfl) | (exact ⟨rfl, by repeat' first | exact trivial | exact lR | apply And.intro⟩) | apply And.intro) (by cbv; repeat' first | exact trivial | exact lR | exact zC rfl | exact z4 rfl | exact yN rfl | apply And.intro) rfl) ?_
        intro i hi
        cbv
        refine zG (fun h => ?_) (fun h => ?_)
        · have hlt : i < 4 := om
          by_cases hi3 : i < 3
          · have k := a1 i hi3
            have e1 : nB i = 3 := if_pos oM
            have e2 : nB (i + 1) = 3 := if_pos oM
            have e3 : decide (i < 4) = true := decide_eq_true hlt
            have e4 : decide (i + 1 < 4) = true := decide_eq_true oM
            clear a1 a2 cpf cv
            cbv
            refine kW Tg (.le (ps' := ⟨lpT ++ [(16, .ptr 16 0), (86, iV 4), (87, iV i), (90, lpF), (91, iV i)], lpO [iV n, alv us, alv os, rlv lo, rlv hiR, alv rows, tsv gts, zM gc.neg, nat gc.num, nat gc.den, dlv path, llv lems] (oU i) (L.take 3) L FS ts c (cwV (FS.take 3) s0 true) ++ [(16, .box (slc s0))]⟩) (by cbv; repeat' first | exact trivial | exact lR | exact zF om | (exact ⟨rfl, by repeat' first | exact trivial | exact lR | apply And.intro⟩) | apply And.intro) (by cbv; rw [e1, e3]; repeat' first | exact trivial | exact lR | exact zC rfl | exact zO rfl | exact yN rfl | exact z4 rfl | apply And.intro) rfl) k ?_
            cbv
            exact ⟨zE om om, i + 1, hlt, by show 4 - (i + 1) < 4 - i; omega, .le (by cbv; repeat' first | exact trivial | exact lR | exact zF om | (exact ⟨rfl, by repeat' first | exact trivial | exact lR | apply And.intro⟩) | apply And.intro) (by cbv; rw [e2, e4, ← (Gp i hi3).2]; repeat' first | exact trivial | exact lR | exact zC rfl | exact zO rfl | exact yN rfl | exact z4 rfl | apply And.intro) rfl⟩
          · have hi3 : i = 3 := by omega
            subst hi3
            obtain ⟨r, hr⟩ := yB (l := L) (i := 3) oM
            obtain ⟨a, ha⟩ := yB (l := FS) (i := 3) oM
            have k := a2 r a h3 hr ha
            clear a1 a2 cpf cv
            cbv
            refine kW Tg (.le (ps' := ⟨lpT ++ [(16, .ptr 16 0), (86, iV 4), (87, iV (((3 : Nat) : Int))), (90, lpF), (91, iV (((3 : Nat) : Int)))], lpO [iV n, alv us, alv os, rlv lo, rlv hiR, alv rows, tsv gts, zM gc.neg, nat gc.num, nat gc.den, dlv path, llv lems] (oU 3) (L.take 3) L FS ts c (cwV (FS.take 3) s0 true) ++ [(16, .box (slc s0))]⟩) (by cbv; repeat' first | exact trivial | exact lR | exact zF om | (exact ⟨rfl, by repeat' first | exact trivial | exact lR | apply And.intro⟩) | apply And.intro) (by cbv; repeat' first | exact trivial | exact lR | exact zC rfl | exact zO rfl | exact yN rfl | exact z4 rfl | apply And.intro) rfl) k ?_
            cbv
            exact ⟨zE om om, 4, by decide, by decide, .le (by cbv; repeat' first | exact trivial | exact lR | exact zF om | (exact ⟨rfl, by repeat' first | exact trivial | exact lR | apply And.intro⟩) | apply And.intro) (by cbv; rw [show L.take (nB 4) = L from yU (by rw [hL]; decide), show FS.take (nB 4) = FS from yU (by rw [hF]; decide)]; repeat' first | exact trivial | exact lR | exact zC rfl | exact zO rfl | exact yN rfl | exact z4 rfl | apply And.intro) rfl⟩
        · have hi4 : i = 4 := om
          subst hi4
          cbv
          exact ⟨true, fun _ => h3, by decide, .le (by cbv; repeat' first | exact trivial | exact lR | exact zF om | (exact ⟨rfl, by repeat' first | exact trivial | exact lR | apply And.intro⟩) | apply And.intro) (by cbv; rw [show L.take (nB 4) = L from yU (by rw [hL]; decide), show FS.take (nB 4) = FS from yU (by rw [hF]; decide)]; repeat' first | exact trivial | exact lR | exact zC rfl | exact zO rfl | exact yN rfl | exact z4 rfl | apply And.intro) rfl⟩
      · have h1 : s0.st = 1 := by rcases hst with e | e; exact e; exact absurd (by rw [e]; rfl) h
        have cv1 := cv h1
        have hR := hR1 h1
        subst hR
        cbv
        refine xI rfl (by exact ⟨okA, zU (hqe _), trivial⟩) cv1 rfl ?_
        cbv
        refine xD rfl ?_
        cbv
        refine yA (by rw [h1]; decide) ?_
        cbv
        refine Wv 10 (.frz 21 rfl rfl (by cbv; repeat' first | exact trivial | apply And.intro) (by cbv; repeat' first | exact trivial | exact z6 (by rw [zB]; omega) | apply And.intro)) (by cbv) ?_
        cbv
        refine wK (by exact ⟨zU (by rw [vS, ← zB rwc (L.take 3), vV]), lR, trivial⟩) cpf rfl ?_
        cbv
        exact rA
    | true =>
      have h3 := hb rfl
      have w2 := w1 h3
      have h4 := hs1 h3
      have hR := hR3 h3
      subst hR
      clear w1 w0 a1 a2 cpf cv
      cbv
      refine kA Ng w2 ?_
      clear w2
      cbv
      refine xD rfl ?_
      cbv
      refine yA (by rw [h4]; decide) ?_
      cbv
      refine xD (by rw [h4]; decide) ?_
      cbv
      refine xD (by rw [zB]) ?_
      cbv
      (refine rC ?_; cbv)
      exact ⟨⟨lR, zO (by rw [uI]), xC (by rw [uI]; rfl), xC (by rw [uI]; rfl), xC rfl, xC rfl, trivial⟩, lR, trivial⟩
def cuF:F:=⟨[(0,1)],-1⟩
def cuX:FQry:=⟨⟨1,[cuF],[cuF]⟩,⟨[(0,3)],[]⟩,F.zero⟩
def cuQ:Scp:=⟨cuX.q,[],[]⟩
def TJ:cuQ.sz (2^20):=by
 have f3:∀ z:Int,z.natAbs<2^20->(zK ((z:Int):Rat)).sz 1:=λz h=>z5 (mV (f7 h (by decide)) (by decide));have fw:(fA cuF).sz 1:=by
  (refine⟨⟨by show 1<2^38;decide,λt ht=>?_⟩,f3 (-1) (by decide)⟩;have:t=((0:Int),zK ((1:Int):Rat)):=by simpa[fA,cuF,tR] using ht);rw[this];exact f3 1 (by decide)
 have fz:(fA F.zero).sz 1:=⟨⟨by show 0<2^38;decide,λt ht=>absurd ht (by simp[fA,F.zero,tR])⟩,f3 0 (by decide)⟩;refine⟨⟨⟨⟨by show 1<2^38;decide,λa ha=>?_⟩,⟨by show 1<2^38;decide,λa ha=>?_⟩⟩,⟨⟨by show 1<2^38;decide,λa ha=>?_⟩,⟨by show 1<2^38;decide,λa ha=>?_⟩,⟨by show 0<2^38;decide,λa ha=>absurd ha (by simp[cuQ,cuX,FQry.q,FReg.g])⟩⟩,fz.mono (by decide)⟩,
  ⟨by show 0<2^38;decide,λd hd=>absurd hd (by simp[cuQ])⟩,⟨by show 0<2^38;decide,λm hm=>absurd hm (by simp[cuQ]),λm hm=>absurd hm (by simp[cuQ])⟩⟩
 ·(have:a=fA cuF:=by simpa[cuQ,cuX,FQry.q,FGrp.g] using ha);rw[this];exact fw.mono (by decide)
 ·(have:a=fA cuF:=by simpa[cuQ,cuX,FQry.q,FGrp.g] using ha);rw[this];exact fw.mono (by decide)
 ·(have:a=zK ((0:Int):Rat):=by simpa[cuQ,cuX,FQry.q,FReg.g] using ha);rw[this];exact (f3 0 (by decide)).mono (by decide)
 ·(have:a=zK ((3:Int):Rat):=by simpa[cuQ,cuX,FQry.q,FReg.g] using ha);rw[this];exact (f3 3 (by decide)).mono (by decide)
def cuL:List Row:=[⟨1,0,0,0⟩,⟨2,0,0,0⟩,⟨5,0,0,0⟩,⟨6,0,0,0⟩]
def o7:cuQ.all=cuL:=by decide +kernel
def Rn:cuQ.q.valid=true:=by decide +kernel
def tF (f:F):List (Int×Rat)×Rat:=(f.ts,f.c)
def Du {a b:F}(h:tF a=tF b):a=b:=by obtain⟨x,y⟩:=a;obtain⟨z,w⟩:=b;cases h;rfl
def Ro:cuL.map (λr=>(cuQ.fm r).getD F.zero)=cxG:=(List.map_inj_right (f:=tF) (λ_ _ h=>Du h)).1 (by decide +kernel)
def Rp:Bnd6 cuQ:=⟨TJ,by decide,by decide,by decide,by decide,by rw[o7];decide⟩
def TL:cuQ.forms=cxG.map fA:=by unfold Scp.forms;rw[o7,<-Ro,QG];rfl
def TK {r:Row}(h:r∈cuQ.all):(cuQ.fm r).getD F.zero∈cxG:=by rw[<-Ro];rw[o7] at h;exact y9.2 ⟨r,h,rfl⟩
def cuV (pt:List Rat) (r:Row):Rat:=((cuQ.fm r).getD F.zero).at (xr pt)
def GA (pt:List Rat)(l:List Mult)(hl:pt.length=2)(hf:∀ q,q∈pt->Fits 1 q)(h:qG (cuV pt) cuL=l)(h1:l.length<=1):zH 14 [sv cuQ,rlv (pt.map zK)] (x9 (l.map Mult.row)):=by
 have h':qG (cuV pt) cuQ.all=l:=by rw[o7];exact h
 refine D5 cuQ (pt.map zK) (cuV pt) l Rp Rn (by rw[yH,hl];rfl) (λr hr=>?_) (by rw[h'];exact Ps l h1) (by rw[h']);obtain⟨g1,g2⟩:=tW _ (w6 _ (TK hr));exact Ra _ pt (k:=1) (n:=4) (m:=1) g1 (by rw[hl];exact g2) hf (by decide) (by decide) (by decide) (by decide) (by rw[hl];decide)
def WA {f:F}(h:f∈cxN::cxG):(fA f).sz 1:=((tW f h).1.fit (by decide)).fA
def GB (f:F)(h:f∈cxN::cxG)(fs:List F)(hs:∀ g,g∈fs->g∈cxN::cxG)(hl:fs.length<=4):(⟨2,fs.map fA,fA f⟩:Prg).sz (2^32)/\(⟨2,fs.map fA,fA f⟩:Prg).valid=true:=by refine⟨⟨⟨by show (fs.map fA).length<_;rw[yH];omega,λa ha=>?_⟩,(WA h).mono (by decide)⟩,?_⟩;{obtain⟨g,hg,rfl⟩:=y9.1 ha;exact (WA (hs g hg)).mono (by decide)};{unfold Prg.valid;simp only[xA,decide_eq_true_eq,bX];refine⟨⟨⟨by decide,by decide,by show (fs.map fA).length<=_;rw[yH];omega⟩,(tW f h).2.valid⟩,λa ha=>?_⟩;obtain⟨g,hg,rfl⟩:=y9.1 ha;exact (tW g (hs g hg)).2.valid}
def Rq (f:F)(h:f∈cxN::cxG):zH 9 [sv cuQ,av (fA f)] (.tup [.agg (pcv 2 (cxG.map fA) (fA f).ts (fA f).c),x9 cuL,iV 0]):=by have k:=PJ cuQ (fA f) Rp ((WA h).mono (by decide)) Rn (tW f h).2.valid;unfold cuP at k;rw[TL,o7] at k;exact k
def Rs (f:F)(h:f∈cxN::cxG)(s0 s1:SolR)(q0:Sound 111 [pgo 1000009 (prg 2 cxF f)] (rwO 1000009 (cxF.map fA)) [] (.tup [slv s0,iV 0]) (rwO 1000009 (cxF.map fA)) []) (q1:s0.st=3->Sound 111 [pgo 1000009 (prg 2 cxG f)] (rwO 1000009 (cxG.map fA)) [] (.tup [slv s1,iV 0]) (rwO 1000009 (cxG.map fA)) []/\s1.st=3) (vio:s0.st=1->zH 14 [sv cuQ,rlv (s0.pt.map zK)] (x9 [])) (st:s0.st=1\/s0.st=3) (fit:s0.du.length<=3/\∀ q,q∈s0.du->Fits (2^20) q) (l0:s0.pt.length<2^38/\s0.du.length<2^38/\s0.ry.length<2^38/\s0.bas.length<2^38) (l1:s1.pt.length<2^38/\s1.du.length<2^38/\s1.ry.length<2^38/\s1.bas.length<2^38):LpF cuQ (fA f) cuL (cxG.map fA) s0 s1 where
 prg:=Rq f h
 val:=by obtain⟨v1,v2⟩:=GB f h cxG (λg hg=>w6 _ hg) (by decide);have k:=Kd _ v1;rw[v2] at k;exact k
 new:=by obtain⟨v1,v2⟩:=GB f h [] (λg hg=>absurd hg (by simp)) (by decide);exact Mo _ v1 (by show 0<2^28;decide) v2
 len:=⟨rfl,rfl⟩
 ear:=λi r hr=>by
  (have k:=PM r;have hi:=(w8.1 hr).1;have:i=0\/i=1\/i=2\/i=3:=by have:i<4:=hi;omega);rcases this with rfl|rfl|rfl|rfl <;> (cases hr;exact k)
 ok:=λi a ha=>by obtain⟨g,hg,rfl⟩:=y9.1 (yE ha);exact⟨(WA (w6 _ hg)).mono (by decide),(tW g (w6 _ hg)).2.valid⟩
 q0:=q0
 q1:=q1
 vio:=vio
 st:=st
 fit:=fit
 l0:=l0
 l1:=l1
def Lh:∀ q,q∈[(0:Rat),0]->Fits 1 q:=λq hq=>by
 have h:q=0:=by simpa using hq
 rw[h];exact wJ (by decide)
def Nu:∀ q,q∈cxP.du->Fits (2^20) q:=λq hq=>by
 have h:q=0\/q=1:=by simpa[cxP,or_assoc] using hq
 rcases h with rfl|rfl;{exact wJ (by decide)};{exact fits_one.mono (by decide)}
def Nw:zH 23 [sv cuQ,av (fA cxO)] (.tup [.agg (ptv (lpR cuL cxP)),iV 0]) :=
 Re (Rs cxO Qq cxP cxP Nt (λh=>by cases h) (λ_=>GA [0,0] [] rfl Lh (by decide +kernel) (by decide)) (.inl rfl) ⟨by decide,Nu⟩ ⟨by decide,by decide,by decide,by decide⟩ ⟨by decide,by decide,by decide,by decide⟩)
def Nv:zH 23 [sv cuQ,av (fA cxN)] (.tup [.agg (ptv (lpR cuL cxT)),iV 0]) :=
 Re (Rs cxN vH cxT cxT Ns (λ_=>⟨Nr,rfl⟩) (λh=>by cases h) (.inr rfl) ⟨by decide,λq hq=>by simp[cxT] at hq⟩ ⟨by decide,by decide,by decide,by decide⟩ ⟨by decide,by decide,by decide,by decide⟩)
def Li:zH 14 [sv cuQ,rlv [zK 3,zK 1]] (x9 [⟨6,0,0,0⟩]) :=
 GA [3,1] [⟨⟨6,0,0,0⟩,zK (-1)⟩] rfl (λq hq=>by
  (have:q=3\/q=1:=by simpa using hq);rcases this with rfl|rfl <;> exact⟨by decide,by decide⟩) (by decide +kernel) (by decide)
def MN:zH 21 [] (sv cuQ):=by
 refine sF Tryz.f21 ?_;have c1:=s32 1 (by decide) (by decide);have cm:=s32 (-1) (by decide) (by decide);have c3:=s32 3 (by decide) (by decide);generalize hO:zK ((1:Int):Rat)=O at *;generalize hN:zK ((-1:Int):Rat)=N at *;generalize hT:zK ((3:Int):Rat)=T at *;have eQ:cuQ=⟨⟨⟨1,[⟨[(0,O)],N⟩],[⟨[(0,O)],N⟩]⟩,⟨[R0],[T],[]⟩,⟨[],R0⟩⟩,[],[]⟩:=by rw[<-hO,<-hN,<-hT];exact congrArg (λz=>(⟨⟨⟨1,[fA cuF],[fA cuF]⟩,⟨[z],[zK ((3:Int):Rat)],[]⟩,⟨[],z⟩⟩,[],[]⟩:Scp)) uI
 rw[eQ];clear eQ hO hN hT;cbv;refine cA c1 ?_;cbv;refine cA cm ?_;cbv;refine zP 12 (by cbv) ?_;cbv;refine dA c3 ?_;cbv
 (refine rC ?_;cbv)
 repeat' first|exact trivial|exact lR|exact zU rfl|exact xC rfl|exact zO rfl|apply And.intro
def MO:zH 6 [] (zM true):=by
 refine sF Tryz.f6 ?_;have cx:=MN;have cv:=Zu 1;have cp:=Rq cxO Qq;have cl1:=Nw;have cl2:=Nv;have c1:=s32 1 (by decide) (by decide);have cm:=s32 (-1) (by decide) (by decide);have c3:=s32 3 (by decide) (by decide);have cs:=eS (fA cxO) (zK ((-1:Int):Rat)) ((WA Qq).mono (by decide)) ((z5 (mV (z:=-1) (by decide) (yQ 1))).mono (by decide));have cvi:=Li;have cg:=s35 (zK 0) (by rw[uI];decide);rw[yD,show yG 0=0 from by decide +kernel] at cg;rw[show (fA cxO).f.scale (zK ((-1:Int):Rat)).q=cxN from Du (by rw[yD];decide +kernel)] at cs;have e1:lpR cuL cxP=(cxP,(kD (iK (cuL.take 3) cxP.du)).2):=if_neg (by decide);have e2:lpR cuL cxT=(⟨3,0,[],[],[],[],0⟩,[]):=if_pos rfl;rw[e1] at cl1;rw[e2] at cl2;generalize (kD (iK (cuL.take 3) cxP.du)).2=PF at *;have cl1:zH 23 [sv cuQ,av (fA cxO)] (.tup [.agg [iV 1,zM ((zK 0).neg),nat (zK 0).num,nat (zK 0).den,qlv [0,0],mlv (mR PF)],iV 0]):=cl1;have cl2:zH 23 [sv cuQ,av (fA cxN)] (.tup [.agg [iV 3,zM ((zK 0).neg),nat (zK 0).num,nat (zK 0).den,qlv [],mlv (mR [])],iV 0]):=cl2;have cv:zH 22 [iV 1] (av (fA cxO)):=cv;have cs:zH 24 [av (fA cxO),rv (zK ((-1:Int):Rat))] (av (fA cxN)):=cs;have cvi:zH 14 [sv cuQ,rlv [zK ((3:Int):Rat),zK ((1:Int):Rat)]] (x9 [⟨6,0,0,0⟩]):=cvi;clear e1 e2;generalize zK ((1:Int):Rat)=O at *;generalize zK ((-1:Int):Rat)=N at *;generalize zK ((3:Int):Rat)=T at *;generalize zK (0:Rat)=Z at *;generalize hFS:cxG.map fA=FS at *;have hFl:FS.length=4:=by rw[<-hFS];rfl
 clear hFS;generalize fA cxO=X1 at *;generalize fA cxN=X2 at *;generalize (mR PF)=P1 at *;generalize (mR [])=P2 at *;obtain⟨xt,xc⟩:=X1;obtain⟨yt,yc⟩:=X2;generalize cuQ=Q at *;obtain⟨⟨⟨n,us,os⟩,⟨lo,hi,rows⟩,⟨gts,gc⟩⟩,path,lems⟩:=Q;dsimp only at cx cp cl1 cl2 cv cs cvi;cbv;refine cA cx ?_;cbv;refine cA cv ?_;cbv;refine cA cp ?_;cbv;refine cA cl1 ?_;cbv;refine uB 10 [(9,8)] (by cbv) (by cbv) (by cbv) ?_;cbv;refine dA cm ?_;cbv;refine dA cs ?_;cbv;refine dA cl2 ?_;cbv;refine zP 5 (by cbv) ?_;cbv;refine dA c3 ?_;cbv;refine dA c1 ?_;cbv;refine wK (by repeat' first|exact trivial|exact lR|exact zU rfl|apply And.intro) cvi rfl ?_;clear cx cv cp cl1 cl2 c1 cm c3 cs cvi;cbv;have i0:([⟨6,0,0,0⟩]:List Row)[0]?=some ⟨6,0,0,0⟩:=rfl
 repeat' first
  |(refine J3 ?_;cbv)
  |(refine wU (by first|decide|(rw[zB,hFl];rfl)|(rw[zB];rfl)|rfl) ?_;cbv)
  |(refine xL i0 k7 u6 ?_;cbv)
  |(refine Qj (a:=⟨6,0,0,0⟩) (b:=⟨6,0,0,0⟩) ?_;cbv)
  |(refine xI rfl (by repeat' first|exact trivial|exact lR|exact zU rfl|exact yN rfl|exact zO rfl|exact xC rfl|exact zF rfl|apply And.intro) cg rfl ?_;cbv)
 exact rA
def TH (raw:List UInt8)(b:Bool):LB KK (cuS raw b).lems:=by
 cases b with
 |true=>exact (WK raw).lb| false=>exact λm hm=>absurd hm (by simp[cuS,fdS])
def TI {raw:List UInt8}{b:Bool}{r:Row}{f:F}(h:(cuS raw b).fm r=some f):f.fl 2718660 3000 :=
 Tp (s:=cuS raw b) (x:=(fdY raw 0).1) (o6 raw b) (j1 raw 0) (by rw[WB];exact (U9 raw).path) (TH raw b) h
def HW (l:List Row)(hl:l.length<=1000):zH 12 [x9 l,x9 l] (zM true):=by
 refine sF Tryz.f12 ?_;cbv;refine zG (λ_=>?_) (λh=>(h rfl).elim);cbv;refine zY (σ:=Nat) (λi=>⟨[(0,x9 l),(1,x9 l),(5,iV i)],[]⟩) (λi=>i<=l.length) (λi=>l.length-i) 0 (xO _) (wkZ) ?_;intro i hi;cbv;refine zG (λh=>?_) (λh=>?_)
 ·(have hlt:i<l.length:=by rw[zB] at h;exact om);obtain⟨r,g⟩:=yB hlt
  cbv;refine zP 9 (by cbv) ?_;cbv;refine xL g k7 u6 ?_;cbv;refine xL g k7 u6 ?_;cbv;refine CE (a:=r) (b:=r) ?_;cbv;refine m0 (by simp) ?_;cbv;exact⟨zE om om,i+1,(by show i+1<=l.length;omega),(by show l.length-(i+1)<l.length-i;omega),wkZ⟩
 {cbv;exact rA}
def zA:A:=⟨[],R0⟩
def Md:fA F.zero=zA:=congrArg (A.mk []) uI
def zA_sz:zA.sz 1:=by rw[<-Md];exact⟨⟨by show 0<2^38;decide,λt ht=>absurd ht (by simp[fA,F.zero,tR])⟩,z5 (wJ (by decide))⟩
def Mc (n:Int):zA.valid n=true:=by rw[<-Md];exact F.wf.valid ⟨Cn.nil,λt ht=>absurd ht (by simp[F.zero])⟩
end Go.Proofs.YtboocdbmnfjomaaGreat
