/- A part of the proof: BrC, SpY, LxQ, SqA, SqB, LxF, LxG. -/
import Derived.Test.YtgcpehdkdnkgeaaGreatV31
import Derived.Test.YtgcpehdkdnkgeaaGreatV34
import Derived.Test.YtgcpehdkdnkgeaaGreatV38
import Derived.Test.YtgcpehdkdnkgeaaGreatV33
import Derived.Test.YtgcpehdkdnkgeaaGreatV32
import Derived.Test.YtgcpehdkdnkgeaaGreatV37
set_option linter.all false
namespace Go.Proofs.YtgcpehdkdnkgeaaGreat
open Go
set_option maxRecDepth 100000
set_option maxHeartbeats 4000000
theorem rU8 (w:World):ElR w 5 1 (fun _=>True) u8c :=
 (zMK (k:=.u8) Tryz.underlying5 (by kernel_rfl)).map (fun n=>UInt8.ofNat n.toNat) (fun n h=>by
  have:0≤n∧n≤255:=by simpa [Lit.wf,IntKind.min,IntKind.max,IntKind.signed,IntKind.bits] using h
  have e:((UInt8.ofNat n.toNat).toNat:Int)=n:=by
   rw[UInt8.toNat_ofNat_of_lt' (by show n.toNat<256;omega)]
   omega
  show [D.int .u8 _]=[D.int .u8 _]
  rw[e]) (fun _ _=>trivial)
theorem mQ (w:World):ElR w 22 1 (fun l=>l.length≤maxLen) (fun l=>[u8v l]) :=
 (zHF (k:=1) Tryz.underlying22 (by kernel_rfl) (by decide) (rU8 w)).map (fun l=>l) (fun _ _=>rfl) (fun _ h=>h.2)
theorem rDec (w:World):ElR w 28 5 (fun _=>True) dc :=
 (elS3 (k0:=1) (k1:=1) (k2:=3) Tryz.underlying28 (by kernel_rfl) rfl rfl rfl (rInt w) (rInt w) (rRat w)).map (fun a=>⟨a.1,a.2.1,a.2.2⟩) (fun _ _=>rfl) (fun _ _=>trivial)
theorem zL3 {w:World}{cs:Array Value}{pv:List PV}(hf:yT v4 pv=true)(h:Cs w cs.toList (yW pv)):Rep w (InW w) (fun _=>none) (.agg cs) (.agg pv):=by
 have hl:=h.len
 rw[v7] at hl
 refine .agg (by simpa using hl) fun j hj=>?_
 have:=h.get j (by rw[v7];exact hj)
 rw[kE] at this
 refine .c (xD rfl hf j) ?_
 have e:cs.toList.getD j undef=cs.getD j undef:=by simp [List.getD_eq_getElem?_getD]
 rw[←e]
 exact this.1
def rW (r:Row):Nat:=if 5≤r.k then 4 * KK r.i.toNat+66 else 206
def sW:List Row→Nat
 | []=>0
 | r::rs=>rW r+sW rs
theorem aH:∀ a b,sW (a++b)=sW a+sW b
 | [],b=>by show sW b=0+sW b;omega
 | r::a,b=>by show rW r+sW (a++b)=rW r+sW a+sW b;rw[aH a b];omega
theorem zL9 {B:Nat}:∀ {l:List Row},(∀ r,r∈l→rW r≤B)→sW l≤B * l.length
 | [],_=>by simp [sW]
 | r::l,h=>by
  have h1:=h r List.mem_cons_self
  have h2:=zL9 fun u hu=>h u (List.mem_cons_of_mem _ hu)
  show rW r+sW l≤_
  rw[List.length_cons,Nat.mul_succ]
  omega
theorem zHL {s:Scp}:∀ {rs:List Row} {ws:List UInt8} {l:List (Row × Rat)} {N:Nat},(∀ r,r∈rs→∀ f,s.fm r=some f→f.fl (rW r - 6) 3000)→(∀ r,r∈rs→6≤rW r)→Wt s l N→∃ M,M≤N+sW rs∧Wt s (qV rs ws l) M
 | [],ws,l,N,_,_,h=>⟨N,Nat.le_refl _,by unfold qV;exact h⟩
 | r::rs,[],l,N,_,_,h=>⟨N,Nat.le_add_right _ _,by unfold qV;exact h⟩
 | r::rs,w::ws,l,N,hf,h6,h=>by
  obtain⟨M,h1,h2⟩:=Wt.plMq (zI0 w) (hf r List.mem_cons_self) h
  obtain⟨M',h3,h4⟩:=zHL (ws:=ws) (fun u hu=>hf u (List.mem_cons_of_mem _ hu)) (fun u hu=>h6 u (List.mem_cons_of_mem _ hu)) h2
  have:=h6 r List.mem_cons_self
  refine⟨M',?_,h4⟩
  show M'≤N+(rW r+sW rs)
  omega
theorem zQS (r:Row):6≤rW r:=by unfold rW;split <;> omega
theorem s8:∀ {rs:List Row} {ws:List UInt8} {l:List (Row × Rat)} {i:Nat},(∀ t,t∈l→Fits (2 * i+1) t.2)→l.length≤i→(∀ t,t∈qV rs ws l→Fits (2 * (i+ws.length)+1) t.2)∧(qV rs ws l).length≤i+ws.length
 | [],ws,l,i,h,hl=>by unfold qV;exact⟨fun t ht=>(h t ht).mono (by omega),by omega⟩
 | r::rs,[],l,i,h,hl=>by unfold qV;exact⟨fun t ht=>(h t ht).mono (by omega),by omega⟩
 | r::rs,w::ws,l,i,h,hl=>by
  have:=s8 (rs:=rs) (ws:=ws) (l:=plMq l r (jD ((w % 8).toNat:Int) 4)) (i:=i+1) (zEF (zI0 w) h) (by have:=zDQ l r (jD ((w % 8).toNat:Int) 4);omega)
  rw[List.length_cons,show i+(ws.length+1)=i+1+ws.length by omega]
  exact this
theorem zH1 (s:Scp)(j:Int):(s.rowsU j).all (fun r=>decide (5≤r.k) && decide (r.i=j))=true:=by
 unfold Scp.rowsU Scp.rowsOn Scp.rowsOff Scp.rowsOpen
 simp only[List.all_append,Bool.and_eq_true]
 refine⟨⟨?_,?_⟩,?_⟩ <;> (repeat' split) <;> simp [List.all_append]
theorem zNQ (s:Scp)(j:Int):∀ r,r∈s.rowsU j→5≤r.k∧r.i=j:=fun r hr=>by
 have:=List.all_eq_true.1 (zH1 s j) r hr
 simpa using this
theorem jR (s:Scp)(j:Nat):sW (s.rowsU j)≤(4 * KK j+66) * 12:=by
 have h:=zL9 (B:=4 * KK j+66) (l:=s.rowsU j) fun r hr=>by
  obtain⟨h1,h2⟩:=zNQ s j r hr
  unfold rW
  rw[if_pos h1,h2,Int.toNat_natCast]
  exact Nat.le_refl _
 exact Nat.le_trans h (Nat.mul_le_mul_left _ (zAJ s j))
theorem zJJ (s:Scp):∀ n,n≤4→sW ((List.range n).flatMap fun j:Nat=>s.rowsU (j:Int))≤35140000
 | 0,_=>by simp [sW]
 | 1,_=>by
  have:=jR s 0
  have e:KK 0=230:=rfl
  simp only[List.range_succ,List.range_zero,List.nil_append,List.flatMap_append,List.flatMap_cons,List.flatMap_nil,List.append_nil,aH]
  omega
 | 2,_=>by
  have h0:=jR s 0
  have h1:=jR s 1
  have e:KK 0=230:=rfl
  have e1:KK 1=3450:=rfl
  simp only[List.range_succ,List.range_zero,List.nil_append,List.flatMap_append,List.flatMap_cons,List.flatMap_nil,List.append_nil,aH]
  omega
 | 3,_=>by
  have h0:=jR s 0
  have h1:=jR s 1
  have h2:=jR s 2
  have e:KK 0=230:=rfl
  have e1:KK 1=3450:=rfl
  have e2:KK 2=48530:=rfl
  simp only[List.range_succ,List.range_zero,List.nil_append,List.flatMap_append,List.flatMap_cons,List.flatMap_nil,List.append_nil,aH]
  omega
 | 4,_=>by
  have h0:=jR s 0
  have h1:=jR s 1
  have h2:=jR s 2
  have h3:=jR s 3
  have e:KK 0=230:=rfl
  have e1:KK 1=3450:=rfl
  have e2:KK 2=48530:=rfl
  have e3:KK 3=679650:=rfl
  simp only[List.range_succ,List.range_zero,List.nil_append,List.flatMap_append,List.flatMap_cons,List.flatMap_nil,List.append_nil,aH]
  omega
 | n+5,h=>by omega
theorem zMA {l:List Row}{m:Nat}(h:∀ r,r∈l→r.k≤4)(hl:l.length≤m):sW l≤206 * m:=by
 refine Nat.le_trans (zL9 (B:=206) fun r hr=>?_) (Nat.mul_le_mul_left _ hl)
 have:=h r hr
 unfold rW
 rw[if_neg (by omega)]
 exact Nat.le_refl _
theorem zQB {s:Scp}{x:FQry}(hq:s.q=x.q)(hx:x.small)(hp:s.path.length≤3):sW s.all≤35200000:=by
 unfold Scp.all
 split
 ·simp [sW]
 ·have hn:s.q.g.n.toNat=x.g.n:=by rw[hq];rfl
  have hr:s.q.r.rows.length=x.r.rows.length:=by rw[hq];show (List.map _ _).length=_;rw[List.length_map]
  have hu:s.q.g.us.length=x.g.us.length:=by rw[hq];show (List.map _ _).length=_;rw[List.length_map]
  have h1:=hx.g.n2
  have h2:=hx.r.rows
  have h3:=hx.g.us
  have a1:=zMA (m:=6) (l:=(List.range s.q.g.n.toNat).flatMap fun i:Nat=>[(⟨1,(i:Int),0,0⟩:Row),⟨2,(i:Int),0,0⟩]) (fun r hr=>by
   obtain⟨i,_,hi⟩:=List.mem_flatMap.1 hr
   simp only[List.mem_cons,List.not_mem_nil,or_false] at hi
   rcases hi with rfl | rfl
   ·show (1:Int)≤4;decide
   ·show (2:Int)≤4;decide) (by
   rw[hn]
   have:∀ n,((List.range n).flatMap fun i:Nat=>[(⟨1,(i:Int),0,0⟩:Row),⟨2,(i:Int),0,0⟩]).length=2 * n:=fun n=>by
    induction n with
    | zero=>rfl
    | succ n ih=>rw[List.range_succ,List.flatMap_append,List.length_append,ih];simp;omega
   rw[this]
   omega)
  have a2:=zMA (m:=2) (l:=(List.range s.q.r.rows.length).map fun i:Nat=>(⟨3,(i:Int),0,0⟩:Row)) (fun r hr=>by
   obtain⟨i,_,rfl⟩:=List.mem_map.1 hr
   show (3:Int)≤4;decide) (by rw[List.length_map,List.length_range];omega)
  have a3:=zMA (m:=3) (l:=((List.range s.path.length).filter fun i:Nat=>(s.fm ⟨4,(i:Int),0,0⟩).isSome).map fun i:Nat=>(⟨4,(i:Int),0,0⟩:Row)) (fun r hr=>by
   obtain⟨i,_,rfl⟩:=List.mem_map.1 hr
   show (4:Int)≤4;decide) (by
   rw[List.length_map]
   have:=List.length_filter_le (fun i:Nat=>(s.fm ⟨4,(i:Int),0,0⟩).isSome) (List.range s.path.length)
   rw[List.length_range] at this
   omega)
  have a4:=zJJ s s.q.g.us.length (by omega)
  rw[aH,aH,aH]
  omega
theorem zSN {s:Scp}{x:FQry}(hq:s.q=x.q)(hx:x.small)(hp:Dsz 43 s.path)(hL:LB KK s.lems)(r:Row)(f:F)(h:s.fm r=some f):f.fl (rW r - 6) 3000:=by
 unfold rW
 by_cases h5:5≤r.k
 ·rw[if_pos h5]
  have h':=h
  unfold Scp.fm at h'
  split at h'
  ·cases h'
  rw[if_neg (by omega)] at h'
  unfold Scp.fUn at h'
  split at h'
  ·have hi':r.i=((r.i.toNat:Nat):Int):=by omega
   exact (zI1 hq hx o5 hL h5 hi' h).mono (by omega) (Nat.le_refl _)
  ·cases h'
 ·rw[if_neg h5]
  unfold Scp.fm at h
  split at h
  ·cases h
  rw[if_pos (by omega)] at h
  exact zHC hq hx hp h
structure CombOk (s:Scp) (l:List (Row × Rat)):Prop where
 rs:Rs l
 av:AV s l
 ok:SumOk s (mR l)
 sz:Msz (2^20) (mR l)
 len:(mR l).length≤100
 coef:∀ t,t∈l→Fits 100 t.2
theorem oS {raw ws : List UInt8} (hw : ws.length ≤ 30) : CombOk (fdS raw).bounded (qV (fdS raw).bounded.all ws []) := by
  have hx := v5 raw 0
  have hok := zGA raw 0
  have hq := zEX raw
  have hp := oX raw
  have hL := (jO raw).lb
  obtain ⟨c1, c2⟩ := zOL hq hx hok ws
  obtain ⟨c3, c4⟩ := s8 (rs := (fdS raw).bounded.all) (ws := ws) (l := []) (i := 0) (fun t ht => absurd ht (by simp)) (Nat.le_refl _)
  obtain ⟨M, m1, m2⟩ := zHL (s := (fdS raw).bounded) (rs := (fdS raw).bounded.all) (ws := ws) (l := []) (N := 0) (fun r _ => zSN hq hx hp hL r) (fun r _ => zQS r) .nil
  have hpl : (fdS raw).bounded.path.length ≤ 3 := (fT raw).2
  have hs := zQB hq hx hpl
  have c5 : ∀ t, t ∈ qV (fdS raw).bounded.all ws [] → Fits 100 t.2 := fun t ht => (c3 t ht).mono (by omega)
  have hl : (qV (fdS raw).bounded.all ws []).length ≤ 100 := by omega
  refine ⟨c1, c2, m2.sumOk (by have : (2:Nat)^26 = 67108864 := by decide
                               omega) (fun t ht f hf => (zF8 hq hx hp hL hf).mono (by decide) (Nat.le_refl _)) (fun t ht => (c5 t ht).mono (by decide)) (by omega), ⟨by rw [x6]; omega, fun m hm => ?_⟩, by rw [x6]; exact hl, c5⟩
  obtain ⟨t, ht, rfl⟩ := List.mem_map.1 hm
  exact (z8 (c5 t ht)).mono (by decide)
theorem i3 (raw ws:List UInt8)(hw:ws.length≤30):zE 17 [sv (fdS raw).bounded,u8v ws] (mlv (mR (qV (fdS raw).bounded.all ws []))):=by
 have hx:=v5 raw 0
 refine zNO _ ws (dC raw) ?_ ?_ ?_ ?_ (by omega)
 ·have:=hx.g.n2
  show ((fdY raw 0).1.g.n:Int)≤1000000
  omega
 ·have:=hx.r.rows
  show (List.map fA (fdY raw 0).1.r.rows).length≤1000000
  rw[List.length_map]
  omega
 ·have:=(fT raw).2
  show (fdS raw).path.length≤1000000
  omega
 ·have:=hx.g.us
  show (List.map fA (fdY raw 0).1.g.us).length≤1000000
  rw[List.length_map]
  omega
theorem nD {s:Scp}{l:List (Row × Rat)}(h:CombOk s l):(s.sum (mR l)).1=0:=(zBC h.rs h.av).1
theorem zMJ {f:F}{k n:Nat}(h:f.fl k n)(hn:n<2^38):(fA f).sz k:=(h.fit hn).fA
theorem zHI {q:Qry}{path P:List Dec}{L:List Lem}{k i:Int}(h:(⟨q,path,L⟩:Scp).dcd k i=true):(⟨q,path++P,L⟩:Scp).dcd k i=true:=by
 unfold Scp.dcd at h ⊢
 dsimp only at h ⊢
 rw[List.any_append,h]
 rfl
theorem zI6 {q:Qry}{path P:List Dec}{L:List Lem}{r:Row}{p v f:F}{l u:Option Rat}(h:unF ⟨q,path,L⟩ r p v l u=some f):unF ⟨q,path++P,L⟩ r p v l u=some f:=by
 have on:onB ⟨q,path,L⟩ r (l.getD 0) l.isSome=true→onB ⟨q,path++P,L⟩ r (l.getD 0) l.isSome=true:=fun h=>by
  unfold onB at h ⊢
  simp only[Bool.and_eq_true,Bool.or_eq_true,decide_eq_true_eq] at h ⊢
  refine⟨h.1,?_⟩
  rcases h.2 with h | h
  ·exact .inl ⟨h.1,zHI h.2⟩
  ·exact .inr h
 have off:rH ⟨q,path,L⟩ r (u.getD 0) u.isSome=true→rH ⟨q,path++P,L⟩ r (u.getD 0) u.isSome=true:=fun h=>by
  unfold rH at h ⊢
  simp only[Bool.and_eq_true,Bool.or_eq_true,decide_eq_true_eq] at h ⊢
  refine⟨h.1,?_⟩
  rcases h.2 with h | h
  ·exact .inl ⟨h.1,zHI h.2⟩
  ·exact .inr h
 have two:∀ {c d:Prop} [Decidable c] [Decidable d] {x:F},(if c then some x else none)=some f→(c→d)→(if d then some x else none)=some f:=fun h g=>by
  split at h
  ·rename_i hc;rw[if_pos (g hc)];exact h
  ·cases h
 unfold unF at h ⊢
 by_cases h5:r.k=5
 ·rw[if_pos h5] at h ⊢
  exact h
 rw[if_neg h5] at h ⊢
 by_cases h6:r.k=6
 ·rw[if_pos h6] at h ⊢
  exact h
 rw[if_neg h6] at h ⊢
 by_cases h7:r.k=7
 ·rw[if_pos h7] at h ⊢
  exact two h on
 rw[if_neg h7] at h ⊢
 by_cases h8:r.k=8
 ·rw[if_pos h8] at h ⊢
  exact two h on
 rw[if_neg h8] at h ⊢
 by_cases h9:r.k=9
 ·rw[if_pos h9] at h ⊢
  exact two h off
 rw[if_neg h9] at h ⊢
 by_cases h10:r.k=10
 ·rw[if_pos h10] at h ⊢
  exact two h off
 rw[if_neg h10] at h ⊢
 exact h
theorem zOA {q:Qry}{path P:List Dec}{L:List Lem}{r:Row}{f:F}(h:(⟨q,path,L⟩:Scp).fm r=some f):(⟨q,path++P,L⟩:Scp).fm r=some f:=by
 unfold Scp.fm at h ⊢
 split at h
 ·cases h
 ·rename_i hn
  rw[if_neg hn]
  split at h
  ·rename_i hk
   rw[if_pos hk]
   unfold Scp.fIn at h ⊢
   split at h
   ·rename_i hp
    rw[if_pos hp]
    by_cases h1:r.k=1
    ·rw[if_pos h1] at h ⊢;exact h
    rw[if_neg h1] at h ⊢
    by_cases h2:r.k=2
    ·rw[if_pos h2] at h ⊢;exact h
    rw[if_neg h2] at h ⊢
    by_cases h3:r.k=3
    ·rw[if_pos h3] at h ⊢;exact h
    rw[if_neg h3] at h ⊢
    by_cases h4:r.k=4
    ·rw[if_pos h4] at h ⊢
     dsimp only at h ⊢
     cases hd:path[r.i.toNat]? with
     | none=>rw[hd] at h;cases h
     | some d =>
      rw[hd] at h
      rw[List.getElem?_append_left (List.getElem?_eq_some_iff.1 hd).1,hd]
      exact h
    ·rw[if_neg h4] at h;cases h
   ·cases h
  ·rename_i hk
   rw[if_neg hk]
   unfold Scp.fUn at h ⊢
   split at h
   ·rename_i hi
    rw[if_pos hi]
    split at h
    ·rename_i p hp
     dsimp only at hp ⊢
     rw[hp]
     exact zI6 h
    ·cases h
   ·cases h
theorem zOB {q:Qry}{path P:List Dec}{L M:List Lem}{r:Row}{f:F}(h:(⟨q,path,L⟩:Scp).fm r=some f):(⟨q,path++P,L++M⟩:Scp).fm r=some f:=zQ7 (zOA h)
theorem zAG {s t:Scp}(h:∀ r f,s.fm r=some f→t.fm r=some f):∀ {l:List (Row × Rat)} {acc:F},AV s l→sumL t acc (mR l)=sumL s acc (mR l)
 | [],_,_=>rfl
 | u::r,acc,ha=>by
  obtain⟨f,hf⟩:=ha u List.mem_cons_self
  have e:mR (u::r)=⟨u.1,zJ u.2⟩::mR r:=rfl
  rw[e]
  unfold sumL
  dsimp only
  rw[hf,h _ _ hf]
  exact zAG h fun t ht=>ha t (List.mem_cons_of_mem _ ht)
theorem zDD {s t:Scp}(h:∀ r f,s.fm r=some f→t.fm r=some f){l:List (Row × Rat)}(ha:AV s l):t.sum (mR l)=s.sum (mR l):=by
 unfold Scp.sum
 rw[zAG h ha]
theorem zCD {s t:Scp}(h:∀ r f,s.fm r=some f→t.fm r=some f){l:List (Row × Rat)}(ha:AV s l)(f:A):t.proves f (mR l)=s.proves f (mR l):=by
 unfold Scp.proves
 rw[zDD h ha]
theorem zA8 {s t:Scp}(h:∀ r f,s.fm r=some f→t.fm r=some f){l:List (Row × Rat)}(ha:AV s l):t.refutes (mR l)=s.refutes (mR l):=by
 unfold Scp.refutes
 rw[zDD h ha]
abbrev Srt (l:List Mult):Prop:=l.Pairwise (fun a b=>¬ yF b.row a.row=true)
def mrgM:List Mult→List Mult→List Mult
 | [],b=>b
 | a::as',b=>mrgA a (fun b=>mrgM as' b) b
where
 mrgA (a:Mult) (k:List Mult→List Mult):List Mult→List Mult
  | []=>a::k []
  | b::bs=>if yF b.row a.row=true then b::mrgA a k bs else a::k (b::bs)
theorem wX (b:List Mult):mrgM [] b=b:=by unfold mrgM;rfl
theorem xU:∀ a:List Mult,mrgM a []=a
 | []=>wX []
 | a::as'=>by
  have ih:=xU as'
  unfold mrgM mrgM.mrgA
  rw[ih]
theorem uZ (a:Mult)(as':List Mult)(b:Mult)(bs:List Mult):mrgM (a::as') (b::bs)=if yF b.row a.row=true then b::mrgM (a::as') bs else a::mrgM as' (b::bs):=by
 show mrgM.mrgA a (fun b=>mrgM as' b) (b::bs)=_
 unfold mrgM.mrgA
 rfl
theorem vN:∀ {n:Nat} {A1 B1 A2 B2:List Mult},A1.length+B1.length≤n→(∀ x,x∈A1→∀ y,y∈B2→¬ yF y.row x.row=true)→(∀ y,y∈B1→∀ x,x∈A2→yF y.row x.row=true)→mrgM (A1++A2) (B1++B2)=mrgM A1 B1++mrgM A2 B2
 | _,[],[],A2,B2,_,_,_=>by rw[wX];rfl
 | 0,a::A1,_,_,_,h,_,_=>by simp at h
 | 0,[],b::B1,_,_,h,_,_=>by simp at h
 | n+1,[],b::B1,[],B2,h,h1,h2=>by rw[wX,wX,List.nil_append,wX]
 | n+1,[],b::B1,a::A2,B2,h,h1,h2=>by
  have hb:=h2 b List.mem_cons_self a List.mem_cons_self
  have ih:=vN (n:=n) (A1:=[]) (B1:=B1) (A2:=a::A2) (B2:=B2) (by simp at h ⊢;omega) (fun x hx=>absurd hx (by simp)) (fun y hy=>h2 y (List.mem_cons_of_mem _ hy))
  rw[List.nil_append,List.cons_append,uZ,if_pos hb]
  rw[List.nil_append,wX] at ih
  rw[ih,wX]
  rfl
 | n+1,a::A1,[],A2,[],h,h1,h2=>by rw[List.append_nil,xU,xU,xU]
 | n+1,a::A1,[],A2,b::B2,h,h1,h2=>by
  have hb:=h1 a List.mem_cons_self b List.mem_cons_self
  have ih:=vN (n:=n) (A1:=A1) (B1:=[]) (A2:=A2) (B2:=b::B2) (by simp at h ⊢;omega) (fun x hx=>h1 x (List.mem_cons_of_mem _ hx)) (fun y hy=>absurd hy (by simp))
  rw[List.nil_append,List.cons_append,uZ,if_neg hb]
  rw[List.nil_append,xU] at ih
  rw[ih,xU]
  rfl
 | n+1,a::A1,b::B1,A2,B2,h,h1,h2=>by
  by_cases hb:yF b.row a.row=true
  ·have ih:=vN (n:=n) (A1:=a::A1) (B1:=B1) (A2:=A2) (B2:=B2) (by simp at h ⊢;omega) h1 (fun y hy=>h2 y (List.mem_cons_of_mem _ hy))
   rw[List.cons_append,List.cons_append,uZ,if_pos hb,uZ,if_pos hb]
   rw[List.cons_append] at ih
   rw[ih]
   rfl
  ·have ih:=vN (n:=n) (A1:=A1) (B1:=b::B1) (A2:=A2) (B2:=B2) (by simp at h ⊢;omega) (fun x hx=>h1 x (List.mem_cons_of_mem _ hx)) h2
   rw[List.cons_append,List.cons_append,uZ,if_neg hb,uZ,if_neg hb]
   rw[List.cons_append] at ih
   rw[ih]
   rfl
theorem tI:∀ {a b:List Mult} {x:Mult},x∈mrgM a b→x∈a∨x∈b
 | [],b,x,h=>by rw[wX] at h;exact .inr h
 | a::as',[],x,h=>by rw[xU] at h;exact .inl h
 | a::as',b::bs,x,h=>by
  rw[uZ] at h
  split at h
  ·rcases List.mem_cons.1 h with h | h
   ·exact .inr (by rw[h];exact List.mem_cons_self)
   ·rcases tI h with h | h
    ·exact .inl h
    ·exact .inr (List.mem_cons_of_mem _ h)
  ·rcases List.mem_cons.1 h with h | h
   ·exact .inl (by rw[h];exact List.mem_cons_self)
   ·rcases tI h with h | h
    ·exact .inl (List.mem_cons_of_mem _ h)
    ·exact .inr h
termination_by a b=>a.length+b.length
theorem eL:∀ a b:List Mult,(mrgM a b).length=a.length+b.length
 | [],b=>by rw[wX];simp
 | a::as',[]=>by rw[xU];simp
 | a::as',b::bs=>by
  rw[uZ]
  split
  ·rw[List.length_cons,eL (a::as') bs];simp;omega
  ·rw[List.length_cons,eL as' (b::bs)];simp;omega
termination_by a b=>a.length+b.length
theorem zQL (raw ws:List UInt8)(d:Dec)(hr:raw.length≤9223372036854775807)(hl:ws.length≤9223372036854775807):zE 4 [u8v raw,u8v ws,dv d] (.bool (fun _=>true)):=by
 refine sF Tryz.f4 ?_
 have ca:=zFZ
 have csc:raw.length≤400→zE 14 [u8v raw] (sv (fdS raw).bounded):=fun h=>iZ raw (by omega)
 have bz:=dC raw
 have facts:ws.length≤30→d.x.sz 2→∃ (S:A) (l:List Mult) (N:R) (b:Bool),zE 17 [sv (fdS raw).bounded,u8v ws] (mlv l)∧zE 18 [sv (fdS raw).bounded,mlv l] (.tup [av S,.int .i64 (fun _=>0)])∧zE 19 [rv d.x] (rv N) ∧
   zE 21 [sv (fdS raw).bounded,mlv l] (.bool (fun _=>b)) ∧
   (∀ up:Bool,zE 20 [sv ⟨(fdS raw).bounded.q,(fdS raw).bounded.path++[d],(fdS raw).bounded.lems++[⟨d.i,up,N,[]⟩]⟩,av S,mlv l] (.bool (fun _=>true))) ∧
   (∀ up:Bool,zE 21 [sv ⟨(fdS raw).bounded.q,(fdS raw).bounded.path++[d],(fdS raw).bounded.lems++[⟨d.i,up,N,[]⟩]⟩,mlv l] (.bool (fun _=>b))):=fun h hd=>by
  have C:=oS (raw:=raw) h
  have cm:=i3 raw ws h
  generalize qV (fdS raw).bounded.all ws []=l at *
  have s0:=nD C
  have fl:=Scp.sum_fl' C.ok
  have hcn:=Scp.sum_can (fdS raw).bounded (mR l)
  have c1:=p7 (fdS raw).bounded (mR l) bz C.ok
  rw[s0] at c1
  have c2:=s47 d.x (hd.mono (by decide))
  have c3:=bL (fdS raw).bounded (mR l) bz C.sz C.len
  have hdf:=hd.fits (by decide)
  have tz:∀ up:Bool,(⟨(fdS raw).bounded.q,(fdS raw).bounded.path++[d],(fdS raw).bounded.lems++[⟨d.i,up,zJ d.x.q,[]⟩]⟩:Scp).sz (2^20):=fun up=>by
   have hpl:=(fT raw).2
   have hll:=(jO raw).len
   refine⟨bz.q,⟨?_,fun e he=>?_⟩,⟨?_,fun m hm=>?_,fun m hm=>?_⟩⟩
   ·show ((fdS raw).path++[d]).length<2^38
    rw[List.length_append,List.length_singleton]
    omega
   ·rcases List.mem_append.1 he with he | he
    ·exact bz.path.sz e he
    ·rw[List.mem_singleton.1 he];exact hd.mono (by decide)
   ·show ((fdS raw).bounded.lems++[_]).length<2^38
    rw[List.length_append,List.length_singleton]
    omega
   ·rcases List.mem_append.1 hm with hm | hm
    ·exact bz.lems.sz m hm
    ·rw[List.mem_singleton.1 hm];exact (z8 hdf).mono (by decide)
   ·rcases List.mem_append.1 hm with hm | hm
    ·exact bz.lems.pf m hm
    ·rw[List.mem_singleton.1 hm]
     exact⟨by show 0<2^38;decide,fun a ha=>absurd ha (by simp)⟩
  have b0:=zCM (zEX raw) (v5 raw 0) (zGA raw 0) C.rs C.av (c:=0) (by decide)
  have e0:((fdS raw).bounded.sum (mR l)).2.add (F.num 0)=((fdS raw).bounded.sum (mR l)).2:=add_zero hcn
  rw[e0] at b0
  have hext:∀ (up:Bool) r f,(fdS raw).bounded.fm r=some f→(⟨(fdS raw).bounded.q,(fdS raw).bounded.path++[d],(fdS raw).bounded.lems++[⟨d.i,up,zJ d.x.q,[]⟩]⟩:Scp).fm r=some f:=fun up r f h=>zOB (q:=(fdS raw).bounded.q) (path:=(fdS raw).bounded.path) (L:=(fdS raw).bounded.lems) h
  refine⟨_,mR l,_,_,cm,c1,c2,c3,fun up=>?_,fun up=>?_⟩
  ·have:=sI ⟨(fdS raw).bounded.q,(fdS raw).bounded.path++[d],(fdS raw).bounded.lems++[⟨d.i,up,zJ d.x.q,[]⟩]⟩ (fA ((fdS raw).bounded.sum (mR l)).2) (mR l) (tz up) ((zMJ fl (by decide)).mono (by decide)) C.sz C.len
   rw[zCD (hext up) C.av,b0] at this
   exact this
  ·have:=bL ⟨(fdS raw).bounded.q,(fdS raw).bounded.path++[d],(fdS raw).bounded.lems++[⟨d.i,up,zJ d.x.q,[]⟩]⟩ (mR l) (tz up) C.sz C.len
   rw[zA8 (hext up) C.av] at this
   exact this
 have hpl:(fdS raw).bounded.path.length≤3:=(fT raw).2
 have hll:=(jO raw).len
 clear bz
 generalize (fdS raw).bounded=Bd at *
 obtain⟨⟨⟨n,us,os⟩,⟨lo,hi',rows⟩,⟨ts,c⟩⟩,path,lems⟩:=Bd
 dsimp only at facts hpl hll
 obtain⟨dk,di,⟨dn,dnum,dden⟩⟩:=d
 dsimp only at facts
 cbv
 refine cA ca ?_
 cbv
 refine zC5 rfl ?_
 cbv
 refine zR (fun h4=>?_) (fun h4=>?_)
 ·cbv
  (refine rC ?_;cbv)
  exact yL rfl
 have h4':raw.length≤400:=by rw[zA] at h4;(try dsimp only [zG] at *);omega
 have csc':=csc h4'
 clear csc
 cbv
 refine zR (fun h5=>?_) (fun h5=>?_)
 ·cbv
  (refine rC ?_;cbv)
  exact yL rfl
 have h5':ws.length≤30:=by rw[zA] at h5;(try dsimp only [zG] at *);omega
 cbv
 refine zR (fun h6=>?_) (fun h6=>?_)
 ·cbv
  (refine rC ?_;cbv)
  exact yL rfl
 have h6':dnum.length≤2:=by rw[zK] at h6;(try dsimp only [zG] at *);omega
 cbv
 refine zH (fun h7=>?_) (fun h7=>?_)
 ·cbv
  (refine rC ?_;cbv)
  exact yL rfl
 have h7':dden.length≤2:=by rw[zK] at h7;(try dsimp only [zG] at *);omega
 obtain⟨S,l,N,b,d0,d1,d2,d3,d4,d5⟩:=facts h5' ⟨h6',h7'⟩
 clear facts
 obtain⟨Sts,Sc⟩:=S
 have e1:∀ x:Dec,enc dc (path++[x])=enc dc path++zQ [dc x]:=fun x=>by simp [enc,zQ]
 have e2:∀ x:Lem,enc lc (lems++[x])=enc lc lems++zQ [lc x]:=fun x=>by simp [enc,zQ]
 have hq1:∀ x:Dec,((enc dc path++zQ [dc x]).drop 0).take (path.length+1)=enc dc (path++[x]):=fun x=>by
  rw[←e1,List.drop_zero,List.take_of_length_le (by rw[zA];simp)]
 have hq2:∀ x:Lem,((enc lc lems++zQ [lc x]).drop 0).take (lems.length+1)=enc lc (lems++[x]):=fun x=>by
  rw[←e2,List.drop_zero,List.take_of_length_le (by rw[zA];simp)]
 cbv
 refine cA csc' ?_
 cbv
 refine cA d0 ?_
 cbv
 refine cA d1 ?_
 cbv
 refine oL 6 [(3,51)] (.fresh 51 5 rfl) (by cbv) (by cbv) ?_
 cbv
 refine oJ rY rfl (xN cH _) (z7 om (by rw[zA];(try dsimp only [zG] at *);omega)) ?_
 cbv
 refine aO rY ?_
 cbv
 refine oL 13 [(3,59)] (.fresh 59 6 rfl) (by cbv) (by cbv) ?_
 cbv
 refine oJ rX rfl (xN wQ _) (z7 om (by rw[zA];(try dsimp only [zG] at *);omega)) ?_
 cbv
 refine⟨vG om,?_⟩
 cbv
 refine yU okA d2 rfl ?_
 cbv
 refine aO rX ?_
 cbv
 refine fZ 13 (.trans (.frz 51 rfl rfl (by cbv;repeat' first | exact trivial | exact zX (by simp [zA,zQ]) | apply And.intro) (by cbv;repeat' first | exact trivial | exact zX (by simp [zA,zQ]) | apply And.intro)) (.frz 59 rfl rfl (by cbv;repeat' first | exact trivial | exact zX (by simp [zA,zQ]) | apply And.intro) (by cbv;repeat' first | exact trivial | exact zX (by simp [zA,zQ]) | apply And.intro))) (by cbv) ?_
 cbv
 refine yU (by exact⟨⟨lR,lR,lR,lR,lR,lR,lR,lR,lR,lR,zP ((congrArg (fun k=>List.take k _) (by simp [zA,zQ])).trans (hq1 _)),zP ((congrArg (fun k=>List.take k _) (by simp [zA,zQ])).trans (hq2 ⟨di,(decide (irem (((enc u8c raw).length:Nat):Int) 2=0)),N,[]⟩)),trivial⟩,okA,lR,trivial⟩) (d4 (decide (irem (((enc u8c raw).length:Nat):Int) 2=0))) rfl ?_
 cbv
 refine zEW rfl ?_
 cbv
 refine yU (by exact⟨⟨lR,lR,lR,lR,lR,lR,lR,lR,lR,lR,zP ((congrArg (fun k=>List.take k _) (by simp [zA,zQ])).trans (hq1 _)),zP ((congrArg (fun k=>List.take k _) (by simp [zA,zQ])).trans (hq2 ⟨di,(decide (irem (((enc u8c raw).length:Nat):Int) 2=0)),N,[]⟩)),trivial⟩,lR,trivial⟩) (d5 (decide (irem (((enc u8c raw).length:Nat):Int) 2=0))) rfl ?_
 cbv
 refine dA d3 ?_
 cbv
 (refine rC ?_;cbv)
 exact zV (by simp)
theorem zQW (w:UInt8):nx .i64 (w.toNat:Int)=(w.toNat:Int):=by
 have h:=w.toNat_lt
 unfold nx
 generalize w.toNat=k at *
 simp [IntKind.wrap,IntKind.signed,IntKind.bits]
 omega
theorem zHT {t:Scp}{x:FQry}(hq:t.q=x.q)(hx:x.small)(hp:Dsz 43 t.path)(hL:LB KK t.lems){l:List Mult}(h1:Msz 679650 l)(h2:l.length≤14):SumOk t l where
 fm m hm f hf:=(zF8 hq hx hp hL hf).mono (by decide) (by decide)
 c:=h1.mono (by decide)
 pre i acc ha:=by
  have:=zDE (fun r f hf=>zF8 hq hx hp hL hf) (fun m hm=>(h1.sz m (List.mem_of_mem_take hm)).fits (by decide)) zero_fl ha
  have hl:(l.take i).length≤14:=by rw[List.length_take];omega
  have e:(2718660+679650+5) * (l.take i).length≤(2718660+679650+5) * 14:=Nat.mul_le_mul_left _ hl
  have e2:(2:Nat)^26=67108864:=by decide
  exact this.mono (by omega) (by omega)
theorem iT {t:Scp}{x:FQry}(hq:t.q=x.q)(hx:x.small)(hp:Dsz 43 t.path)(hL:LB KK t.lems)(hs:t.sz (2^20))(hpf:∀ m,m∈t.lems→Msz 679650 m.pf∧m.pf.length≤14) :
  ∃ b,zE 15 [sv t] (.bool (fun _=>b))∧zE 16 [sv t] (.bool (fun _=>b)) :=
 ⟨_,i6 t hs (fun m hm=>by have:=(hpf m hm).2;omega),zQF t hs (fun i m hm=>by
  obtain⟨g1,g2⟩:=hpf m (List.mem_of_getElem? hm)
  exact zHT (t:=t.pre i) hq hx hp (fun n hn=>hL n (List.mem_of_mem_take hn)) g1 g2)⟩
theorem tP {s:Scp}:∀ {l:List Lem} {i k:Nat} {m:Lem},l[k]?=some m→(∀ t:Scp,t.q=s.q→t.lemB m=false)→vY s i l=false
 | [],_,_,_,h,_=>by simp at h
 | a::r,i,0,m,h,hb=>by
  simp only[List.getElem?_cons_zero,Option.some.injEq] at h
  subst h
  unfold vY
  rw[hb (s.pre i) rfl]
  rfl
 | a::r,i,k+1,m,h,hb=>by
  simp only[List.getElem?_cons_succ] at h
  unfold vY
  rw[tP h hb,Bool.and_false]
theorem tM {α:Type}{l:List α}{i:Nat}{a x:α}(h:x∈l.set i a):x∈l∨x=a:=List.mem_or_eq_of_mem_set h
theorem oH {α:Type}{p:α→List PV}{n:Nat}{l:List α}{i i':Nat}{a:α}{K:List PV→Prop}(h:l[i]?=some a)(hi:i'=i)(hf:∀ a,yT v4 (p a)=true)(hn:∀ a,(p a).length=n)(hK:K (p a)):ElOk n (fun _=>enc p l) (fun _=>i') K :=
 ⟨⟨p a,hf a,hn a,by show (enc p l)[i']?=_;rw[hi];unfold enc;rw[List.getElem?_map,h];rfl,hK⟩⟩
theorem zRG {α:Type}{p:α→List PV}{n:Nat}{els:List (List D)}{l:List α}{i i':Nat}{a:α}{K:List PV→Prop}(he:els=enc p l)(h:l[i]?=some a)(hi:i'=i)(hf:∀ a,yT v4 (p a)=true)(hn:∀ a,(p a).length=n)(hK:K (p a)):ElOk n (fun _=>els) (fun _=>i') K:=by
 subst he
 exact oH h hi hf hn hK
structure ScF (q:Qry) (path:List Dec) (lems:List Lem) (k:Nat) (m m0:Lem):Prop where
 fl:∃ b,zE 15 [sv ⟨q,path,lems.set k ⟨m.u,!m.up,m.v,m.pf⟩⟩] (.bool (fun _=>b))∧zE 16 [sv ⟨q,path,lems.set k ⟨m.u,!m.up,m.v,m.pf⟩⟩] (.bool (fun _=>b))
 sw:∃ b,zE 15 [sv ⟨q,path,(lems.set 0 m).set k m0⟩] (.bool (fun _=>b))∧zE 16 [sv ⟨q,path,(lems.set 0 m).set k m0⟩] (.bool (fun _=>b))
 un:zE 15 [sv ⟨q,path,lems.set k ⟨(q.g.us.length:Int),m.up,m.v,m.pf⟩⟩] (.bool (fun _=>false))
theorem zJH (raw:List UInt8){k:Nat}{m m0:Lem}(h:(fdS raw).bounded.lems[k]?=some m)(h0:(fdS raw).bounded.lems[0]?=some m0):ScF (fdS raw).bounded.q (fdS raw).bounded.path (fdS raw).bounded.lems k m m0:=by
 have bz:=dC raw
 have bk:=jO raw
 have hx:=v5 raw 0
 have hm:=List.mem_of_getElem? h
 have hm0:=List.mem_of_getElem? h0
 have gen:∀ L:List Lem,L.length<2^38→(∀ n,n∈L→∃ n',n'∈(fdS raw).bounded.lems∧n.u=n'.u∧n.v=n'.v∧n.pf=n'.pf)→∃ b,zE 15 [sv ⟨(fdS raw).bounded.q,(fdS raw).bounded.path,L⟩] (.bool (fun _=>b))∧zE 16 [sv ⟨(fdS raw).bounded.q,(fdS raw).bounded.path,L⟩] (.bool (fun _=>b)):=fun L hl hL=>by
  refine iT (t:=⟨(fdS raw).bounded.q,(fdS raw).bounded.path,L⟩) (zEX raw) hx (oX raw) (fun n hn=>?_) ⟨bz.q,bz.path,⟨hl,fun n hn=>?_,fun n hn=>?_⟩⟩ (fun n hn=>?_)
  ·obtain⟨n',g1,g2,g3,g4⟩:=hL n hn
   rw[g2,g3]
   exact bk.lb n' g1
  ·obtain⟨n',g1,g2,g3,g4⟩:=hL n hn
   rw[g3]
   exact bz.lems.sz n' g1
  ·obtain⟨n',g1,g2,g3,g4⟩:=hL n hn
   rw[g4]
   exact bz.lems.pf n' g1
  ·obtain⟨n',g1,g2,g3,g4⟩:=hL n hn
   rw[g4]
   exact bk.pf n' g1
 have hll:=bk.len
 refine⟨gen _ (by rw[List.length_set];omega) (fun n hn=>?_),gen _ (by rw[List.length_set,List.length_set];omega) (fun n hn=>?_),?_⟩
 ·rcases tM hn with hn | rfl
  ·exact⟨n,hn,rfl,rfl,rfl⟩
  ·exact⟨m,hm,rfl,rfl,rfl⟩
 ·rcases tM hn with hn | rfl
  ·rcases tM hn with hn | rfl
   ·exact⟨n,hn,rfl,rfl,rfl⟩
   ·exact⟨n,hm,rfl,rfl,rfl⟩
  ·exact⟨n,hm0,rfl,rfl,rfl⟩
 ·have hlt:=(List.getElem?_eq_some_iff.1 h).1
  have hmm:∀ n,n∈(fdS raw).bounded.lems.set k ⟨((fdS raw).bounded.q.g.us.length:Int),m.up,m.v,m.pf⟩→∃ n',n'∈(fdS raw).bounded.lems∧n.v=n'.v∧n.pf=n'.pf:=fun n hn=>by
   rcases tM hn with hn | rfl
   ·exact⟨n,hn,rfl,rfl⟩
   ·exact⟨m,hm,rfl,rfl⟩
  have c:=i6 ⟨(fdS raw).bounded.q,(fdS raw).bounded.path,(fdS raw).bounded.lems.set k ⟨((fdS raw).bounded.q.g.us.length:Int),m.up,m.v,m.pf⟩⟩ ⟨bz.q,bz.path,⟨by show (List.set _ _ _).length<2^38;rw[List.length_set];omega,fun n hn=>by
   obtain⟨n',g1,g2,g3⟩:=hmm n hn
   rw[g2];exact bz.lems.sz n' g1,fun n hn=>by
   obtain⟨n',g1,g2,g3⟩:=hmm n hn
   rw[g3];exact bz.lems.pf n' g1⟩⟩ (fun n hn=>by
   obtain⟨n',g1,g2,g3⟩:=hmm n hn
   rw[g3]
   have:=(bk.pf n' g1).2
   omega)
  have hb:(⟨(fdS raw).bounded.q,(fdS raw).bounded.path,(fdS raw).bounded.lems.set k ⟨((fdS raw).bounded.q.g.us.length:Int),m.up,m.v,m.pf⟩⟩:Scp).scopeB=false:=by
   unfold Scp.scopeB
   rw[tP (k:=k) (m:=⟨((fdS raw).bounded.q.g.us.length:Int),m.up,m.v,m.pf⟩) (by show (List.set _ _ _)[k]?=_;rw[List.getElem?_set_self hlt]) (fun t ht=>by
    unfold Scp.lemB
    have e1:t.q=(fdS raw).bounded.q:=ht
    rw[e1,decide_eq_false (by show ¬ (0≤((fdS raw).bounded.q.g.us.length:Int)∧((fdS raw).bounded.q.g.us.length:Int)<((fdS raw).bounded.q.g.us.length:Int));omega)]
    rfl),Bool.and_false,Bool.and_false]
  rw[hb] at c
  exact c
theorem zQK (raw:List UInt8)(at':UInt8)(d:Dec)(hr:raw.length≤9223372036854775807):zE 3 [u8v raw,.int .u8 (fun _=>(at'.toNat:Int)),dv d] (.bool (fun _=>true)):=by
 refine sF Tryz.f3 ?_
 have ca:=zFZ
 have csc:raw.length≤400→zE 14 [u8v raw] (sv (fdS raw).bounded):=fun h=>iZ raw (by omega)
 have bz:=dC raw
 have bk:=jO raw
 have hna:=zQW at'
 have hat:=at'.toNat_lt
 have F1:d.x.sz 2→∃ b,zE 15 [sv ⟨(fdS raw).bounded.q,(fdS raw).bounded.path++[d],(fdS raw).bounded.lems⟩] (.bool (fun _=>b))∧zE 16 [sv ⟨(fdS raw).bounded.q,(fdS raw).bounded.path++[d],(fdS raw).bounded.lems⟩] (.bool (fun _=>b)):=fun hd=>by
  have hpl:(fdS raw).bounded.path.length≤3:=(fT raw).2
  have hlen1:((fdS raw).bounded.path++[d]).length<2^38:=by rw[List.length_append,List.length_singleton];omega
  have hdz:Dsz 43 ((fdS raw).bounded.path++[d]):=⟨hlen1,fun e he=>by
   rcases List.mem_append.1 he with he | he
   ·exact (oX raw).sz e he
   ·rw[List.mem_singleton.1 he];exact hd.mono (by decide)⟩
  exact iT (t:=⟨(fdS raw).bounded.q,(fdS raw).bounded.path++[d],(fdS raw).bounded.lems⟩) (zEX raw) (v5 raw 0) hdz bk.lb ⟨bz.q,hdz.mono (by decide),bz.lems⟩ bk.pf
 have F2:=fun k m m0 h h0=>zJH raw (k:=k) (m:=m) (m0:=m0) h h0
 have hpl:(fdS raw).bounded.path.length≤3:=(fT raw).2
 have hll:=bk.len
 clear bz bk
 generalize (fdS raw).bounded=Bd at *
 obtain⟨⟨⟨n,us,os⟩,⟨lo,hi',rows⟩,⟨ts,c⟩⟩,path,lems⟩:=Bd
 dsimp only at F1 F2 hpl hll
 obtain⟨dk,di,⟨dn,dnum,dden⟩⟩:=d
 dsimp only at F1
 cbv
 refine cA ca ?_
 cbv
 refine zC5 rfl ?_
 cbv
 refine zR (fun h4=>?_) (fun h4=>?_)
 ·cbv
  (refine rC ?_;cbv)
  exact yL rfl
 have h4':raw.length≤400:=by rw[zA] at h4;(try dsimp only [zG] at *);omega
 have csc':=csc h4'
 clear csc
 cbv
 refine zR (fun h6=>?_) (fun h6=>?_)
 ·cbv
  (refine rC ?_;cbv)
  exact yL rfl
 have h6':dnum.length≤2:=by rw[zK] at h6;(try dsimp only [zG] at *);omega
 cbv
 refine zH (fun h7=>?_) (fun h7=>?_)
 ·cbv
  (refine rC ?_;cbv)
  exact yL rfl
 have h7':dden.length≤2:=by rw[zK] at h7;(try dsimp only [zG] at *);omega
 obtain⟨b1,s1,s2⟩:=F1 ⟨h6',h7'⟩
 clear F1
 have hq1:∀ x:Dec,((enc dc path++zQ [dc x]).drop 0).take (path.length+1)=enc dc (path++[x]):=fun x=>by
  have e1:enc dc (path++[x])=enc dc path++zQ [dc x]:=by simp [enc,zQ]
  rw[←e1,List.drop_zero,List.take_of_length_le (by rw[zA];simp)]
 cbv
 refine cA csc' ?_
 cbv
 refine oL 6 [(3,37)] (.fresh 37 5 rfl) (by cbv) (by cbv) ?_
 cbv
 refine oJ rY rfl (xN cH _) (z7 om (by rw[zA];(try dsimp only [zG] at *);omega)) ?_
 cbv
 refine aO rY ?_
 cbv
 refine fZ 5 (.frz 37 rfl rfl (by cbv;repeat' first | exact trivial | exact zX (by simp [zA,zQ]) | apply And.intro) (by cbv;repeat' first | exact trivial | exact zX (by simp [zA,zQ]) | apply And.intro)) (by cbv) ?_
 cbv
 refine yU (by exact⟨⟨lR,lR,lR,lR,lR,lR,lR,lR,lR,lR,zP ((congrArg (fun k=>List.take k _) (by simp [zA,zQ])).trans (hq1 _)),lR,trivial⟩,trivial⟩) s1 rfl ?_
 cbv
 refine yU (by exact⟨⟨lR,lR,lR,lR,lR,lR,lR,lR,lR,lR,zP ((congrArg (fun k=>List.take k _) (by simp [zA,zQ])).trans (hq1 _)),lR,trivial⟩,trivial⟩) s2 rfl ?_
 cbv
 refine xI rfl ?_
 clear s1 s2 hq1
 cbv
 refine zH (fun h8=>?_) (fun h8=>?_)
 ·cbv
  (refine rC ?_;cbv)
  exact yL rfl
 have h8':0<lems.length:=by rw[zA] at h8;(try dsimp only [zG] at *);omega
 cbv
 refine⟨vG (by rw[zA];(try dsimp only [zG] at *);omega),?_⟩
 cbv
 obtain⟨K,hK,hKl⟩:∃ K:Nat,irem (nx .i64 (at'.toNat:Int)) ((enc lc lems).length:Int)=(K:Int)∧K<lems.length:=by
  rw[hna,qF,zA]
  exact⟨_,rfl,Nat.mod_lt _ h8'⟩
 obtain⟨m,hm⟩:=yA hKl
 obtain⟨m0,hm0⟩:=yA h8'
 have F:=F2 K m m0 hm hm0
 clear F2
 obtain⟨⟨b2,f1,f2⟩,⟨b3,f3,f4⟩,f5⟩:=F
 have hle:(enc lc lems).length=lems.length:=zA lc lems
 refine k7 rX rfl rfl (xN wQ _) (z7 (by simp only[zA];omega) (by simp only[zA];omega)) rfl ?_
 cbv
 refine zO 10 (by cbv) ?_
 cbv
 refine⟨yD om om,oH (i:=K) hm om wT wQ ?_⟩
 cbv
 refine⟨yD om om,oH (i:=K) hm om wT wQ ?_⟩
 cbv
 refine k7 rX rfl rfl (xN wQ _) (z7 (by simp only[zA];omega) (by simp only[zA];omega)) rfl ?_
 cbv
 refine zOH 16 15 79 [3] (by cbv) (by cbv) ?_
 cbv
 refine⟨yD om om,oH (i:=K) hm om wT wQ ?_⟩
 cbv
 refine⟨yD om om,oH (i:=0) hm0 om wT wQ ?_⟩
 cbv
 refine⟨yD om om,oH (i:=0) hm0 om wT wQ ?_⟩
 cbv
 have hm2:(lems.set 0 m)[K]?=some m:=by
  by_cases hK0:K=0
  ·subst hK0
   exact List.getElem?_set_self h8'
  ·rw[List.getElem?_set_ne (fun e=>hK0 e.symm)]
   exact hm
 have hes:(enc lc lems).set 0 (yW (lc m))=enc lc (lems.set 0 m):=w5 lc lems 0 m
 refine⟨yD om om,zRG (l:=lems.set 0 m) (i:=K) (by exact hes) hm2 om wT wQ ?_⟩
 cbv
 refine k7 rX rfl rfl (xN wQ _) (z7 (by simp only[zA];omega) (by simp only[zA];omega)) rfl ?_
 cbv
 refine⟨yD om om,oH (i:=K) hm om wT wQ ?_⟩
 cbv
 have g1:(((enc lc lems).set (0+(irem (nx .i64 (at'.toNat:Int)) ((enc lc lems).length:Int)).toNat) (yW (lc ⟨m.u,!m.up,m.v,m.pf⟩))).drop 0).take (enc lc lems).length=enc lc (lems.set K ⟨m.u,!m.up,m.v,m.pf⟩):=by
  rw[hK,show 0+(K:Int).toNat=K by omega,w5,List.drop_zero,List.take_of_length_le (by simp only[zA,List.length_set];omega)]
 have g2:((((enc lc lems).set (0+(0:Int).toNat) (yW (lc m))).set (0+(irem (nx .i64 (at'.toNat:Int)) ((enc lc lems).length:Int)).toNat) (yW (lc m0))).drop 0).take (enc lc lems).length=enc lc ((lems.set 0 m).set K m0):=by
  rw[hK,show 0+(K:Int).toNat=K by omega,show 0+(0:Int).toNat=0 from rfl,w5,w5,List.drop_zero,List.take_of_length_le (by simp only[zA,List.length_set];omega)]
 have g3:(((enc lc lems).set (0+(irem (nx .i64 (at'.toNat:Int)) ((enc lc lems).length:Int)).toNat) (yW (lc ⟨((enc ac us).length:Int),m.up,m.v,m.pf⟩))).drop 0).take (enc lc lems).length=enc lc (lems.set K ⟨(us.length:Int),m.up,m.v,m.pf⟩):=by
  rw[hK,show 0+(K:Int).toNat=K by omega,zA ac us,w5,List.drop_zero,List.take_of_length_le (by simp only[zA,List.length_set];omega)]
 refine fZ 17 (.trans (.frz 61 rfl rfl (by cbv;repeat' first | exact trivial | exact zX (by simp [zA,zQ,List.length_set]) | apply And.intro) (by cbv;repeat' first | exact trivial | exact zX (by simp [zA,zQ,List.length_set]) | apply And.intro)) (.trans (.frz 79 rfl rfl (by cbv;repeat' first | exact trivial | exact zX (by simp [zA,zQ,List.length_set]) | apply And.intro) (by cbv;repeat' first | exact trivial | exact zX (by simp [zA,zQ,List.length_set]) | apply And.intro)) (.frz 101 rfl rfl (by cbv;repeat' first | exact trivial | exact zX (by simp [zA,zQ,List.length_set]) | apply And.intro) (by cbv;repeat' first | exact trivial | exact zX (by simp [zA,zQ,List.length_set]) | apply And.intro)))) (by cbv) ?_
 cbv
 refine yU (by exact⟨⟨lR,lR,lR,lR,lR,lR,lR,lR,lR,lR,lR,zP g1,trivial⟩,trivial⟩) f1 rfl ?_
 cbv
 refine yU (by exact⟨⟨lR,lR,lR,lR,lR,lR,lR,lR,lR,lR,lR,zP g1,trivial⟩,trivial⟩) f2 rfl ?_
 cbv
 refine xR rfl ?_
 cbv
 refine yU (by exact⟨⟨lR,lR,lR,lR,lR,lR,lR,lR,lR,lR,lR,zP g2,trivial⟩,trivial⟩) f3 rfl ?_
 cbv
 refine yU (by exact⟨⟨lR,lR,lR,lR,lR,lR,lR,lR,lR,lR,lR,zP g2,trivial⟩,trivial⟩) f4 rfl ?_
 cbv
 refine xR rfl ?_
 cbv
 refine yU (by exact⟨⟨lR,lR,lR,lR,lR,lR,lR,lR,lR,lR,lR,zP g3,trivial⟩,trivial⟩) f5 rfl ?_
 cbv
 (refine rC ?_;cbv)
 first | exact yL rfl | exact zV rfl | exact zV (by rfl) | exact⟨rfl⟩ | exact⟨by simp [Le]⟩
end Go.Proofs.YtgcpehdkdnkgeaaGreat
