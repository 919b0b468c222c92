/- A part of the proof: SpK, SpL, SpM, SpN, SpO, SpP, SpQ, SpR, SpS, SpT, RtA. -/
import Derived.Test.YtgcpehdkdnkgeaaGreatV32
import Derived.Test.YtgcpehdkdnkgeaaGreatV26
import Derived.Test.YtgcpehdkdnkgeaaGreatV25
import Derived.Test.YtgcpehdkdnkgeaaGreatV27
import Derived.Test.YtgcpehdkdnkgeaaGreatV30
set_option linter.all false
namespace Go.Proofs.YtgcpehdkdnkgeaaGreat
open Go
set_option maxRecDepth 100000
set_option maxHeartbeats 2000000
theorem zG6 {q:Qry}{path:List Dec}{L M:List Lem}{k u:Int}{up:Bool}{v:Rat}(h:(⟨q,path,L⟩:Scp).lem k u up=some v):(⟨q,path,L++M⟩:Scp).lem k u up=some v:=by
 unfold Scp.lem at h ⊢
 dsimp only at h ⊢
 split at h
 ·rename_i hk
  split at h
  ·rename_i m hm
   have hl:=(List.getElem?_eq_some_iff.1 hm).1
   rw[if_pos ⟨hk.1,by rw[List.length_append];omega⟩,List.getElem?_append_left hl,hm]
   exact h
  ·cases h
 ·cases h
theorem zMP {q:Qry}{path:List Dec}{L M:List Lem}{r:Row}{p v f:F}(h:unF ⟨q,path,L⟩ r p v ((⟨q,path,L⟩:Scp).lem r.lo r.i false) ((⟨q,path,L⟩:Scp).lem r.hi r.i true)=some f) :
  unF ⟨q,path,L++M⟩ r p v ((⟨q,path,L++M⟩:Scp).lem r.lo r.i false) ((⟨q,path,L++M⟩:Scp).lem r.hi r.i true)=some f:=by
 have el:=fun v (h:(⟨q,path,L⟩:Scp).lem r.lo r.i false=some v)=>zG6 (M:=M) h
 have eu:=fun v (h:(⟨q,path,L⟩:Scp).lem r.hi r.i true=some v)=>zG6 (M:=M) h
 have zl:r.lo=0→(⟨q,path,L++M⟩:Scp).lem r.lo r.i false=none:=fun h=>by rw[h];exact zDY _ _ _
 have zu:r.hi=0→(⟨q,path,L++M⟩:Scp).lem r.hi r.i true=none:=fun h=>by rw[h];exact zDY _ _ _
 have hd:∀ k i,(⟨q,path,L++M⟩:Scp).dcd k i=(⟨q,path,L⟩:Scp).dcd k i:=fun _ _=>rfl
 have on:∀ l,onB ⟨q,path,L⟩ r (l.getD 0) l.isSome=true→(∀ v,l=some v→(⟨q,path,L++M⟩:Scp).lem r.lo r.i false=some v)→onB ⟨q,path,L++M⟩ r (((⟨q,path,L++M⟩:Scp).lem r.lo r.i false).getD 0) ((⟨q,path,L++M⟩:Scp).lem r.lo r.i false).isSome=true:=fun l h g=>by
  unfold onB at h ⊢
  rw[hd]
  cases l with
  | some v=>rw[g v rfl];exact h
  | none =>
   simp only[Bool.and_eq_true,Bool.or_eq_true,decide_eq_true_eq,Option.isSome_none,Bool.false_eq_true,false_and,or_false] at h
   obtain⟨h1,h2,h3⟩:=h
   rw[h3,decide_eq_true h1,decide_eq_true h2]
   rfl
 have off:∀ l,rH ⟨q,path,L⟩ r (l.getD 0) l.isSome=true→(∀ v,l=some v→(⟨q,path,L++M⟩:Scp).lem r.hi r.i true=some v)→rH ⟨q,path,L++M⟩ r (((⟨q,path,L++M⟩:Scp).lem r.hi r.i true).getD 0) ((⟨q,path,L++M⟩:Scp).lem r.hi r.i true).isSome=true:=fun l h g=>by
  unfold rH at h ⊢
  rw[hd]
  cases l with
  | some v=>rw[g v rfl];exact h
  | none =>
   simp only[Bool.and_eq_true,Bool.or_eq_true,decide_eq_true_eq,Option.isSome_none,Bool.false_eq_true,false_and,or_false] at h
   obtain⟨h1,h2,h3⟩:=h
   rw[h3,decide_eq_true h1,decide_eq_true h2]
   rfl
 have two:∀ {c d:Prop} [Decidable c] [Decidable d] {x:F},(if c then some x else none)=some f→(c→d)→(if d then some x else none)=some f:=fun h g=>by
  split at h
  ·rename_i hc;rw[if_pos (g hc)];exact h
  ·cases h
 unfold unF at h ⊢
 by_cases h5:r.k=5
 ·rw[if_pos h5] at h ⊢
  exact h
 rw[if_neg h5] at h ⊢
 by_cases h6:r.k=6
 ·rw[if_pos h6] at h ⊢
  exact h
 rw[if_neg h6] at h ⊢
 by_cases h7:r.k=7
 ·rw[if_pos h7] at h ⊢
  exact two h (fun g=>on _ g el)
 rw[if_neg h7] at h ⊢
 by_cases h8:r.k=8
 ·rw[if_pos h8] at h ⊢
  exact two h (fun g=>on _ g el)
 rw[if_neg h8] at h ⊢
 by_cases h9:r.k=9
 ·rw[if_pos h9] at h ⊢
  exact two h (fun g=>off _ g eu)
 rw[if_neg h9] at h ⊢
 by_cases h10:r.k=10
 ·rw[if_pos h10] at h ⊢
  exact two h (fun g=>off _ g eu)
 rw[if_neg h10] at h ⊢
 by_cases h11:r.k=11
 ·rw[if_pos h11] at h ⊢
  cases hl:(⟨q,path,L⟩:Scp).lem r.lo r.i false with
  | none=>rw[hl] at h;simp at h
  | some v=>rw[hl] at h;rw[el v hl];exact h
 rw[if_neg h11] at h ⊢
 by_cases h12:r.k=12
 ·rw[if_pos h12] at h ⊢
  cases hl:(⟨q,path,L⟩:Scp).lem r.hi r.i true with
  | none=>rw[hl] at h;simp at h
  | some v=>rw[hl] at h;rw[eu v hl];exact h
 rw[if_neg h12] at h ⊢
 by_cases h13:r.k=13
 ·rw[if_pos h13] at h ⊢
  cases hl:(⟨q,path,L⟩:Scp).lem r.lo r.i false with
  | none=>rw[hl] at h;simp at h
  | some v =>
   cases hu:(⟨q,path,L⟩:Scp).lem r.hi r.i true with
   | none=>rw[hl,hu] at h;simp at h
   | some w=>rw[hl,hu] at h;rw[el v hl,eu w hu];exact h
 rw[if_neg h13] at h ⊢
 cases h
theorem zQ7 {q:Qry}{path:List Dec}{L M:List Lem}{r:Row}{f:F}(h:(⟨q,path,L⟩:Scp).fm r=some f):(⟨q,path,L++M⟩:Scp).fm r=some f:=by
 unfold Scp.fm at h ⊢
 split at h
 ·cases h
 ·rename_i hn
  rw[if_neg hn]
  split at h
  ·rename_i hk;rw[if_pos hk];exact h
  ·rename_i hk
   rw[if_neg hk]
   unfold Scp.fUn at h ⊢
   split at h
   ·rename_i hi
    rw[if_pos hi]
    split at h
    ·rename_i p hp
     dsimp only at hp ⊢
     rw[hp]
     exact zMP h
    ·cases h
   ·cases h
theorem oU (v:Int):Cn (F.var v).ts:=Cn.nil.cons (by simp) (by show (1:Rat)≠0;decide)
theorem pI (q:Rat):Cn (F.num q).ts:=Cn.nil
theorem f8 {f g:F}(hf:Cn f.ts)(hg:Cn g.ts):Cn (f.sub g).ts:=Cn.mrg hf hg
theorem zLX {f g:F}(hf:Cn f.ts)(hg:Cn g.ts):Cn (f.add g).ts:=Cn.mrg hf hg
theorem sC {f:F}{c:Rat}(hf:Cn f.ts):Cn (f.scale c).ts:=Cn.mrg Cn.nil hf
theorem zKU {s:Scp}{r:Row}{p v f:F}{l u:Option Rat}(hp:Cn p.ts)(hv:Cn v.ts)(h:unF s r p v l u=some f):Cn f.ts:=by
 have two:∀ {c:Prop} [Decidable c] {x:F},(if c then some x else none)=some f→x=f:=fun h=>by
  split at h
  ·exact Option.some.inj h
  ·cases h
 unfold unF at h
 by_cases h5:r.k=5
 ·rw[if_pos h5] at h;rw[←two h];exact hv
 rw[if_neg h5] at h
 by_cases h6:r.k=6
 ·rw[if_pos h6] at h;rw[←two h];exact f8 hv hp
 rw[if_neg h6] at h
 by_cases h7:r.k=7
 ·rw[if_pos h7] at h;rw[←two h];exact zLX hp Cn.nil
 rw[if_neg h7] at h
 by_cases h8:r.k=8
 ·rw[if_pos h8] at h;rw[←two h];exact f8 hp hv
 rw[if_neg h8] at h
 by_cases h9:r.k=9
 ·rw[if_pos h9] at h;rw[←two h];exact sC hp
 rw[if_neg h9] at h
 by_cases h10:r.k=10
 ·rw[if_pos h10] at h;rw[←two h];exact sC hv
 rw[if_neg h10] at h
 by_cases h11:r.k=11
 ·rw[if_pos h11] at h;rw[←two h];exact f8 hp (pI _)
 rw[if_neg h11] at h
 by_cases h12:r.k=12
 ·rw[if_pos h12] at h;rw[←two h];exact f8 (pI _) hp
 rw[if_neg h12] at h
 by_cases h13:r.k=13
 ·rw[if_pos h13] at h;rw[←two h];exact f8 (sC (f8 hp (pI _))) (sC hv)
 rw[if_neg h13] at h
 cases h
theorem zRD {s:Scp}{x:FQry}(hq:s.q=x.q)(hx:x.ok){r:Row}{f:F}(h:s.fIn r=some f):Cn f.ts:=by
 unfold Scp.fIn at h
 by_cases h0:r.plain=true∧0≤r.i
 ·rw[if_pos h0] at h
  by_cases h1:r.k=1
  ·rw[if_pos h1] at h
   obtain⟨y,_,rfl⟩:=Option.map_eq_some_iff.1 h
   exact f8 (oU _) (pI _)
  rw[if_neg h1] at h
  by_cases h2:r.k=2
  ·rw[if_pos h2] at h
   obtain⟨y,_,rfl⟩:=Option.map_eq_some_iff.1 h
   exact f8 (pI _) (oU _)
  rw[if_neg h2] at h
  by_cases h3:r.k=3
  ·rw[if_pos h3] at h
   obtain⟨y,hy,rfl⟩:=Option.map_eq_some_iff.1 h
   have hm:=List.mem_of_getElem? hy
   rw[hq] at hm
   obtain⟨g,hg,rfl⟩:=List.mem_map.1 hm
   rw[uK]
   exact zLX (hx.rows g hg).cn Cn.nil
  rw[if_neg h3] at h
  by_cases h4:r.k=4
  ·rw[if_pos h4] at h
   split at h
   ·rename_i d hd
    split at h
    ·split at h
     ·cases h;exact f8 (oU _) (pI _)
     ·split at h
      ·cases h;exact sC (f8 (oU _) (pI _))
      ·cases h
    ·cases h
   ·cases h
  rw[if_neg h4] at h
  cases h
 ·rw[if_neg h0] at h;cases h
theorem zS1 {s:Scp}{x:FQry}(hq:s.q=x.q)(hx:x.ok)(r:Row)(f:F)(h:s.fm r=some f):Cn f.ts:=by
 unfold Scp.fm at h
 split at h
 ·cases h
 ·split at h
  ·exact zRD hq hx h
  ·unfold Scp.fUn at h
   split at h
   ·split at h
    ·rename_i p hp
     rw[hq] at hp
     have hp':(x.g.us.map fA)[r.i.toNat]?=some p:=hp
     rw[List.getElem?_map] at hp'
     obtain⟨g,hg,rfl⟩:=Option.map_eq_some_iff.1 hp'
     rw[uK] at h
     exact zKU (hx.us _ g hg).cn (oU _) h
    ·cases h
   ·cases h
theorem F.wf.sub {f g:F}{n:Int}(hf:f.wf n)(hg:g.wf n):(f.sub g).wf n:=hf.merge hg
theorem mT {s:Scp}{x:FQry}(hq:s.q=x.q)(hx:x.ok){l:List (Row × Rat)}{f:F}{N:Int}(hr:Rs l)(ha:AV s l)(hf:f.wf N)(hN:N≤9223372036854775807)(hc:∀ w,co f.ts w=SC s w l)(hk:SK s l≤f.c):s.proves (fA f) (mR l)=true:=by
 obtain⟨g,h1,h2,h3,h4⟩:=mH hr ha
 have hg:=h4 (zS1 hq hx)
 have hts:(f.sub g).ts=[]:=(f8 hf.cn hg).nil_of (fun w=>by rw[zRN,h2,hc];grind)
 have hcc:(f.sub g).c=f.c+g.c * -1:=rfl
 unfold Scp.proves
 rw[uK,h1,hts,(hf.mono hN).valid,decide_eq_true (p:=(0:Int)≤yB (f.sub g).c) (by
  have:¬ (f.sub g).c<0:=by rw[hcc,h3];grind
  by_cases hs:yB (f.sub g).c<0
  ·exact absurd (zGO.1 hs) this
  ·omega)]
 rfl
def Scp.onU (s:Scp) (j:Int):Bool:=s.dcd 1 j || (decide (0<(s.best j).1) && decide (0≤yB (wK s.lems (s.best j).1)))
def Scp.offU (s:Scp) (j:Int):Bool:=s.dcd 2 j || (decide (0<(s.best j).2) && decide (yB (wK s.lems (s.best j).2)≤0))
def Scp.rowsOn (s:Scp) (j:Int):List Row :=
 let b:Int:=if s.dcd 1 j=true then 0 else ((s.best j).1:Int)
 [⟨6,j,0,0⟩,⟨7,j,b,0⟩,⟨8,j,b,0⟩]
def Scp.rowsOff (s:Scp) (j:Int):List Row :=
 let b:Int:=if s.dcd 2 j=true then 0 else ((s.best j).2:Int)
 [⟨5,j,0,0⟩,⟨9,j,0,b⟩,⟨10,j,0,b⟩]
def Scp.rowsOpen (s:Scp) (j:Int):List Row :=
 [⟨5,j,0,0⟩,⟨6,j,0,0⟩]++(if 0<(s.best j).1 then [⟨11,j,((s.best j).1:Int),0⟩] else [])++(if 0<(s.best j).2 then [⟨12,j,0,((s.best j).2:Int)⟩] else []) ++
  (if 0<(s.best j).1∧0<(s.best j).2 then [⟨13,j,((s.best j).1:Int),((s.best j).2:Int)⟩] else [])
def Scp.rowsU (s:Scp) (j:Int):List Row :=
 (if s.onU j=true then s.rowsOn j else [])++(if s.offU j=true then s.rowsOff j else [])++(if s.onU j=true∨s.offU j=true then [] else s.rowsOpen j)
def Scp.all (s:Scp):List Row :=
 if s.q.valid=false then [] else
 ((List.range s.q.g.n.toNat).flatMap fun i:Nat=>[(⟨1,(i:Int),0,0⟩:Row),⟨2,(i:Int),0,0⟩])++((List.range s.q.r.rows.length).map fun i:Nat=>(⟨3,(i:Int),0,0⟩:Row)) ++
  (((List.range s.path.length).filter fun i:Nat=>(s.fm ⟨4,(i:Int),0,0⟩).isSome).map fun i:Nat=>(⟨4,(i:Int),0,0⟩:Row))++((List.range s.q.g.us.length).flatMap fun j:Nat=>s.rowsU (j:Int))
def qV:List Row→List UInt8→List (Row × Rat)→List (Row × Rat)
 | r::rs,w::ws,l=>qV rs ws (plMq l r (jD ((w % 8).toNat:Int) 4))
 | _,_,l=>l
theorem zOJ (a:Nat):0≤jD (a:Int) 4:=by
 unfold jD
 rw[show (4:Int)=((4:Nat):Int) from rfl,Rat.divInt_ofNat,Rat.mkRat_eq_div,Rat.div_def]
 refine Rat.mul_nonneg ?_ ?_
 ·exact Rat.intCast_nonneg.2 (by omega)
 ·exact Rat.le_of_lt (Rat.inv_pos.2 (by decide +kernel))
theorem zHM:∀ {rs:List Row} {ws:List UInt8} {l:List (Row × Rat)},Rs l→Rs (qV rs ws l)
 | [],_,_,h=>by unfold qV;exact h
 | _::_,[],_,h=>by unfold qV;exact h
 | r::rs,w::ws,l,h=>by unfold qV;exact zHM (zGY h (zOJ _))
theorem zHN {s:Scp}:∀ {rs:List Row} {ws:List UInt8} {l:List (Row × Rat)},(∀ r,r∈rs→∃ f,s.fm r=some f)→AV s l→AV s (qV rs ws l)
 | [],_,_,_,h=>by unfold qV;exact h
 | _::_,[],_,_,h=>by unfold qV;exact h
 | r::rs,w::ws,l,hr,h=>by unfold qV;exact zHN (fun u hu=>hr u (List.mem_cons_of_mem _ hu)) (zHS (hr r List.mem_cons_self) h)
theorem zNW {s:Scp}{j k:Int}{b:Int}(h:s.onU j=true)(hb:b=if s.dcd 1 j=true then 0 else ((s.best j).1:Int)):onB s ⟨k,j,b,0⟩ ((s.lem b j false).getD 0) (s.lem b j false).isSome=true:=by
 unfold onB
 by_cases hd:s.dcd 1 j=true
 ·rw[if_pos hd] at hb
  rw[hb]
  dsimp only
  rw[hd]
  simp
 ·rw[if_neg hd] at hb
  unfold Scp.onU at h
  have hd':s.dcd 1 j=false:=by simpa using hd
  rw[hd',Bool.false_or,Bool.and_eq_true,decide_eq_true_eq,decide_eq_true_eq] at h
  obtain⟨h1,h2⟩:=h
  obtain⟨m,c1,c2,c3⟩:=(zB7 s j).1 (by omega)
  rw[hb,tQ (by omega) c1 c2 c3]
  simp [h2]
theorem zJ0 {s:Scp}{j k:Int}{b:Int}(h:s.offU j=true)(hb:b=if s.dcd 2 j=true then 0 else ((s.best j).2:Int)):rH s ⟨k,j,0,b⟩ ((s.lem b j true).getD 0) (s.lem b j true).isSome=true:=by
 unfold rH
 by_cases hd:s.dcd 2 j=true
 ·rw[if_pos hd] at hb
  rw[hb]
  dsimp only
  rw[hd]
  simp
 ·rw[if_neg hd] at hb
  unfold Scp.offU at h
  have hd':s.dcd 2 j=false:=by simpa using hd
  rw[hd',Bool.false_or,Bool.and_eq_true,decide_eq_true_eq,decide_eq_true_eq] at h
  obtain⟨h1,h2⟩:=h
  obtain⟨m,c1,c2,c3⟩:=(zB7 s j).2 (by omega)
  rw[hb,tQ (by omega) c1 c2 c3]
  simp [h2]
theorem zSS {s:Scp}(hv:s.q.valid=true){i:Nat}{p:F}(hp:s.q.g.us[i]?=some (fA p))(h:s.onU i=true):∀ r,r∈s.rowsOn i→∃ f,s.fm r=some f:=fun r hr=>by
 unfold Scp.rowsOn at hr
 obtain⟨b,hb⟩:∃ b:Int,b=if s.dcd 1 i=true then 0 else ((s.best i).1:Int):=⟨_,rfl⟩
 rw[←hb] at hr
 have hon:=fun k=>zNW (k:=k) h hb
 have:r=⟨6,i,0,0⟩∨r=⟨7,i,b,0⟩∨r=⟨8,i,b,0⟩:=by simpa using hr
 rcases this with h | h | h <;> rw[h,s5 hv (by decide) (by decide) hp]
 ·exact⟨_,rfl⟩
 ·exact⟨p.add F.zero,by
   show (if onB s ⟨7,i,b,0⟩ _ _=true then _ else none)=_
   rw[if_pos (hon 7)]⟩
 ·exact⟨p.sub (F.var (s.q.g.n+i)),by
   show (if onB s ⟨8,i,b,0⟩ _ _=true then _ else none)=_
   rw[if_pos (hon 8)]⟩
theorem zQV {s:Scp}(hv:s.q.valid=true){i:Nat}{p:F}(hp:s.q.g.us[i]?=some (fA p))(h:s.offU i=true):∀ r,r∈s.rowsOff i→∃ f,s.fm r=some f:=fun r hr=>by
 unfold Scp.rowsOff at hr
 obtain⟨b,hb⟩:∃ b:Int,b=if s.dcd 2 i=true then 0 else ((s.best i).2:Int):=⟨_,rfl⟩
 rw[←hb] at hr
 have hoff:=fun k=>zJ0 (k:=k) h hb
 have:r=⟨5,i,0,0⟩∨r=⟨9,i,0,b⟩∨r=⟨10,i,0,b⟩:=by simpa using hr
 rcases this with h | h | h <;> rw[h,s5 hv (by decide) (by decide) hp]
 ·exact⟨_,rfl⟩
 ·exact⟨p.scale (-1),by
   show (if rH s ⟨9,i,0,b⟩ _ _=true then _ else none)=_
   rw[if_pos (hoff 9)]⟩
 ·exact⟨(F.var (s.q.g.n+i)).scale (-1),by
   show (if rH s ⟨10,i,0,b⟩ _ _=true then _ else none)=_
   rw[if_pos (hoff 10)]⟩
theorem zNV {s:Scp}(hv:s.q.valid=true){i:Nat}{p:F}(hp:s.q.g.us[i]?=some (fA p))(h1:¬ s.onU i=true)(h2:¬ s.offU i=true):∀ r,r∈s.rowsOpen i→∃ f,s.fm r=some f:=fun r hr=>by
 obtain⟨b1,b2⟩:=zB7 s i
 have lo:0<(s.best i).1→s.lem ((s.best i).1:Int) i false=some (wK s.lems (s.best i).1)∧yB (wK s.lems (s.best i).1)<0:=fun h=>by
  obtain⟨m,c1,c2,c3⟩:=b1 (by omega)
  refine⟨tQ (by omega) c1 c2 c3,?_⟩
  by_cases g:yB (wK s.lems (s.best i).1)<0
  ·exact g
  ·exact absurd (by unfold Scp.onU;rw[decide_eq_true h,decide_eq_true (p:=0≤yB (wK s.lems (s.best i).1)) (by omega)];simp) h1
 have hi:0<(s.best i).2→s.lem ((s.best i).2:Int) i true=some (wK s.lems (s.best i).2)∧0<yB (wK s.lems (s.best i).2):=fun h=>by
  obtain⟨m,c1,c2,c3⟩:=b2 (by omega)
  refine⟨tQ (by omega) c1 c2 c3,?_⟩
  by_cases g:0<yB (wK s.lems (s.best i).2)
  ·exact g
  ·exact absurd (by unfold Scp.offU;rw[decide_eq_true h,decide_eq_true (p:=yB (wK s.lems (s.best i).2)≤0) (by omega)];simp) h2
 unfold Scp.rowsOpen at hr
 rcases List.mem_append.1 hr with hr | hr
 ·rcases List.mem_append.1 hr with hr | hr
  ·rcases List.mem_append.1 hr with hr | hr
   ·have:r=⟨5,i,0,0⟩∨r=⟨6,i,0,0⟩:=by simpa using hr
    rcases this with h | h <;> rw[h,s5 hv (by decide) (by decide) hp]
    ·exact⟨_,rfl⟩
    ·exact⟨_,rfl⟩
   ·split at hr
    ·rename_i h
     have:r=⟨11,i,((s.best i).1:Int),0⟩:=by simpa using hr
     rw[this,s5 hv (by decide) (by decide) hp,(lo h).1]
     exact⟨_,rfl⟩
    ·exact absurd hr (by simp)
  ·split at hr
   ·rename_i h
    have:r=⟨12,i,0,((s.best i).2:Int)⟩:=by simpa using hr
    rw[this,s5 hv (by decide) (by decide) hp,(hi h).1]
    exact⟨_,rfl⟩
   ·exact absurd hr (by simp)
 ·split at hr
  ·rename_i h
   have:r=⟨13,i,((s.best i).1:Int),((s.best i).2:Int)⟩:=by simpa using hr
   rw[this,s5 hv (by decide) (by decide) hp,(lo h.1).1,(hi h.2).1]
   refine⟨((p.sub (F.num (wK s.lems (s.best i).1))).scale (wK s.lems (s.best i).2)).sub ((F.var (s.q.g.n+i)).scale (wK s.lems (s.best i).2 - wK s.lems (s.best i).1)),?_⟩
   show (if _∧_∧_∧_ then _ else none)=_
   rw[if_pos ⟨rfl,rfl,(lo h.1).2,(hi h.2).2⟩]
   rfl
  ·exact absurd hr (by simp)
theorem zN9 {s:Scp}(hv:s.q.valid=true){i:Nat}{x:A}(hx:s.q.r.rows[i]?=some x):∃ f,s.fm ⟨3,i,0,0⟩=some f:=by
 unfold Scp.fm
 rw[if_neg (by rw[hv];simp),if_pos (by show (3:Int)≤4;decide)]
 unfold Scp.fIn
 rw[if_pos ⟨rfl,by show (0:Int)≤i;omega⟩,if_neg (by show ¬ (3:Int)=1;decide),if_neg (by show ¬ (3:Int)=2;decide),if_pos rfl]
 have e:((⟨3,i,0,0⟩:Row).i).toNat=i:=by show ((i:Int)).toNat=i;omega
 rw[e,hx]
 exact⟨_,rfl⟩
theorem zRS {s:Scp}{x:FQry}(hq:s.q=x.q)(hs:x.small)(hx:x.ok):∀ r,r∈s.all→∃ f,s.fm r=some f:=fun r hr=>by
 have hv:s.q.valid=true:=by rw[hq];exact hs.valid hx
 have hn:s.q.g.n=(x.g.n:Int):=by rw[hq];rfl
 unfold Scp.all at hr
 rw[if_neg (by rw[hv];decide)] at hr
 rcases List.mem_append.1 hr with hr | hr
 ·rcases List.mem_append.1 hr with hr | hr
  ·rcases List.mem_append.1 hr with hr | hr
   ·obtain⟨i,hi,h⟩:=List.mem_flatMap.1 hr
    have hi':i<x.g.n:=by have:=List.mem_range.1 hi;omega
    have:r=⟨1,i,0,0⟩∨r=⟨2,i,0,0⟩:=by simpa using h
    rcases this with h | h
    ·obtain⟨y,hy⟩:∃ y,s.q.r.lo[i]?=some y:=yA (by
      rw[hq]
      show i<(x.r.bs.map _).length
      rw[List.length_map,hs.r.bs];exact hi')
     rw[h];exact⟨_,zSZ hv hy⟩
    ·obtain⟨y,hy⟩:∃ y,s.q.r.hi[i]?=some y:=yA (by
      rw[hq]
      show i<(x.r.bs.map _).length
      rw[List.length_map,hs.r.bs];exact hi')
     rw[h];exact⟨_,zS0 hv hy⟩
   ·obtain⟨i,hi,rfl⟩:=List.mem_map.1 hr
    obtain⟨y,hy⟩:∃ y,s.q.r.rows[i]?=some y:=yA (List.mem_range.1 hi)
    exact zN9 hv hy
  ·obtain⟨i,hi,rfl⟩:=List.mem_map.1 hr
   have h:=(List.mem_filter.1 hi).2
   exact Option.isSome_iff_exists.1 h
 ·obtain⟨j,hj,h⟩:=List.mem_flatMap.1 hr
  have hj':j<x.g.us.length:=by
   have:=List.mem_range.1 hj
   rw[hq] at this
   have e:x.q.g.us.length=x.g.us.length:=by show (List.map fA _).length=_;rw[List.length_map]
   omega
  have hp:s.q.g.us[j]?=some (fA x.g.us[j]):=by
   rw[hq]
   show (x.g.us.map fA)[j]?=_
   rw[List.getElem?_map]
   simp [hj']
  unfold Scp.rowsU at h
  rcases List.mem_append.1 h with h | h
  ·rcases List.mem_append.1 h with h | h
   ·split at h
    ·rename_i ho;exact zSS hv hp ho r h
    ·exact absurd h (by simp)
   ·split at h
    ·rename_i ho;exact zQV hv hp ho r h
    ·exact absurd h (by simp)
  ·split at h
   ·exact absurd h (by simp)
   ·rename_i ho
    exact zNV hv hp (fun g=>ho (.inl g)) (fun g=>ho (.inr g)) r h
theorem zOL {s:Scp}{x:FQry}(hq:s.q=x.q)(hs:x.small)(hx:x.ok)(ws:List UInt8):Rs (qV s.all ws [])∧AV s (qV s.all ws []):=⟨zHM Rs.nil,zHN (zRS hq hs hx) (fun t ht=>absurd ht (by simp))⟩
theorem zPH {s:Scp}{r:Row}{p v f:F}{l u:Option Rat}{N:Int}(hp:p.wf N)(hv:v.wf N)(h:unF s r p v l u=some f):f.wf N:=by
 have two:∀ {c:Prop} [Decidable c] {x:F},(if c then some x else none)=some f→x=f:=fun h=>by
  split at h
  ·exact Option.some.inj h
  ·cases h
 have num:=fun q=>F.wf.num q N
 unfold unF at h
 by_cases h5:r.k=5
 ·rw[if_pos h5] at h;rw[←two h];exact hv
 rw[if_neg h5] at h
 by_cases h6:r.k=6
 ·rw[if_pos h6] at h;rw[←two h];exact hv.sub hp
 rw[if_neg h6] at h
 by_cases h7:r.k=7
 ·rw[if_pos h7] at h;rw[←two h];exact hp.add (F.wf.zero0 N)
 rw[if_neg h7] at h
 by_cases h8:r.k=8
 ·rw[if_pos h8] at h;rw[←two h];exact hp.sub hv
 rw[if_neg h8] at h
 by_cases h9:r.k=9
 ·rw[if_pos h9] at h;rw[←two h];exact hp.scale
 rw[if_neg h9] at h
 by_cases h10:r.k=10
 ·rw[if_pos h10] at h;rw[←two h];exact hv.scale
 rw[if_neg h10] at h
 by_cases h11:r.k=11
 ·rw[if_pos h11] at h;rw[←two h];exact hp.sub (num _)
 rw[if_neg h11] at h
 by_cases h12:r.k=12
 ·rw[if_pos h12] at h;rw[←two h];exact (num _).sub hp
 rw[if_neg h12] at h
 by_cases h13:r.k=13
 ·rw[if_pos h13] at h;rw[←two h];exact (hp.sub (num _)).scale.sub hv.scale
 rw[if_neg h13] at h
 cases h
theorem zBK {s:Scp}{N:Int}(hf:∀ r g,s.fm r=some g→g.wf N):∀ {l:List (Row × Rat)} {acc f:F},acc.wf N→sumL s acc (mR l)=some f→f.wf N
 | [],acc,f,ha,h=>by cases h;exact ha
 | t::r,acc,f,ha,h=>by
  have e:mR (t::r)=⟨t.1,zJ t.2⟩::mR r:=rfl
  rw[e] at h
  unfold sumL at h
  dsimp only at h
  split at h
  ·cases h
  ·rename_i g hg
   exact zBK hf (ha.add (hf _ _ hg).scale) h
theorem zRB {s:Scp}{x:FQry}(hq:s.q=x.q)(hs:x.small)(hx:x.ok){r:Row}{f:F}(h:s.fIn r=some f):f.wf ((x.g.n+x.g.us.length:Nat):Int):=by
 have hn:s.q.g.n=(x.g.n:Int):=by rw[hq];rfl
 have num:=fun q=>F.wf.num q ((x.g.n+x.g.us.length:Nat):Int)
 have hlo:s.q.r.lo.length=x.g.n:=by rw[hq];show (x.r.bs.map _).length=_;rw[List.length_map,hs.r.bs]
 have hhi:s.q.r.hi.length=x.g.n:=by rw[hq];show (x.r.bs.map _).length=_;rw[List.length_map,hs.r.bs]
 unfold Scp.fIn at h
 by_cases h0:r.plain=true∧0≤r.i
 ·rw[if_pos h0] at h
  by_cases h1:r.k=1
  ·rw[if_pos h1] at h
   obtain⟨y,hy,rfl⟩:=Option.map_eq_some_iff.1 h
   have:=(List.getElem?_eq_some_iff.1 hy).1
   exact (F.wf.var h0.2 (by omega)).sub (num _)
  rw[if_neg h1] at h
  by_cases h2:r.k=2
  ·rw[if_pos h2] at h
   obtain⟨y,hy,rfl⟩:=Option.map_eq_some_iff.1 h
   have:=(List.getElem?_eq_some_iff.1 hy).1
   exact (num _).sub (F.wf.var h0.2 (by omega))
  rw[if_neg h2] at h
  by_cases h3:r.k=3
  ·rw[if_pos h3] at h
   obtain⟨y,hy,rfl⟩:=Option.map_eq_some_iff.1 h
   have hm:=List.mem_of_getElem? hy
   rw[hq] at hm
   obtain⟨g,hg,rfl⟩:=List.mem_map.1 hm
   rw[uK]
   exact ((hx.rows g hg).mono (by omega)).add (F.wf.zero0 _)
  rw[if_neg h3] at h
  by_cases h4:r.k=4
  ·rw[if_pos h4] at h
   split at h
   ·rename_i d hd
    split at h
    ·rename_i hfit
     have hdi:d.k=3∨d.k=4→0≤d.i∧d.i<((x.g.n+x.g.us.length:Nat):Int):=fun hk=>by
      unfold Dec.fits at hfit
      rw[if_neg (by omega),if_pos hk,Bool.and_eq_true,decide_eq_true_eq] at hfit
      omega
     split at h
     ·rename_i hk
      cases h
      obtain⟨d1,d2⟩:=hdi (.inl hk)
      exact (F.wf.var d1 d2).sub (num _)
     ·split at h
      ·rename_i hk
       cases h
       obtain⟨d1,d2⟩:=hdi (.inr hk)
       exact ((F.wf.var d1 d2).sub (num _)).scale
      ·cases h
    ·cases h
   ·cases h
  rw[if_neg h4] at h
  cases h
 ·rw[if_neg h0] at h;cases h
theorem zO9 {s:Scp}{x:FQry}(hq:s.q=x.q)(hs:x.small)(hx:x.ok)(r:Row)(f:F)(h:s.fm r=some f):f.wf ((x.g.n+x.g.us.length:Nat):Int):=by
 have hn:s.q.g.n=(x.g.n:Int):=by rw[hq];rfl
 unfold Scp.fm at h
 split at h
 ·cases h
 ·split at h
  ·exact zRB hq hs hx h
  ·unfold Scp.fUn at h
   split at h
   ·rename_i hi
    split at h
    ·rename_i p hp
     have hl:=(List.getElem?_eq_some_iff.1 hp).1
     rw[hq] at hp
     have hp':(x.g.us.map fA)[r.i.toNat]?=some p:=hp
     rw[List.getElem?_map] at hp'
     obtain⟨g,hg,rfl⟩:=Option.map_eq_some_iff.1 hp'
     have hl2:=(List.getElem?_eq_some_iff.1 hg).1
     rw[uK] at h
     exact zPH ((hx.us _ g hg).mono (by omega)) (F.wf.var (by omega) (by omega)) h
    ·cases h
   ·cases h
theorem zCM {s:Scp}{x:FQry}(hq:s.q=x.q)(hs:x.small)(hx:x.ok){l:List (Row × Rat)}(hr:Rs l)(ha:AV s l){c:Rat}(hc:0≤c):s.proves (fA ((s.sum (mR l)).2.add (F.num c))) (mR l)=true:=by
 obtain⟨g,h1,h2,h3,h4⟩:=mH hr ha
 have hn:=hs.g.n2
 have hu:=hs.g.us
 have hw:g.wf ((x.g.n+x.g.us.length:Nat):Int):=by
  obtain⟨f,k1,_⟩:=lM (acc:=F.zero) ha
  have hw:=zBK (zO9 hq hs hx) (F.wf.zero0 _) k1
  have:s.sum (mR l)=(0,f):=by
   unfold Scp.sum
   rw[mD hr (fun w e=>by cases e),k1]
   rfl
  rw[this] at h1
  cases h1
  exact hw
 rw[h1]
 refine mT hq hx hr ha (hw.add (F.wf.num c _)) (by omega) (fun w=>?_) ?_
 ·rw[zGD,zRO,h2];grind
 ·have e:(g.add (F.num c)).c=g.c+c * 1:=rfl
  rw[e,h3];grind
theorem zBC {s:Scp}{l:List (Row × Rat)}(hr:Rs l)(ha:AV s l):(s.sum (mR l)).1=0∧s.refutes (mR l)=(decide ((s.sum (mR l)).2.ts.length=0) && decide (yB (s.sum (mR l)).2.c<0)):=by
 obtain⟨g,h1,_⟩:=mH hr ha
 refine⟨by rw[h1],?_⟩
 unfold Scp.refutes
 rw[h1]
 simp
theorem zGU (s:Scp)(n unit:Int)(up:Bool)(hs:Lsz (2^32) s.lems):zE 190 [sv s,.int .i64 (fun _=>n),.int .i64 (fun _=>unit),.bool (fun _=>up)] (.tup [rv (zJ ((s.lem n unit up).getD 0)),.bool (fun _=>(s.lem n unit up).isSome)]):=by
 refine sF Tryz.f190 ?_
 have hno:=fun h=>zF4 (s:=s) (n:=n) (unit:=unit) (up:=up) h
 have hat:=fun (m:Lem) h1 h2 h3=>zF5 (s:=s) (n:=n) (unit:=unit) (up:=up) (m:=m) h1 h2 h3
 have hsl:=hs.len
 have hss:=hs.sz
 generalize s.lem n unit up=o at *
 obtain⟨⟨⟨gn,us,os⟩,⟨lo,hi,rows⟩,⟨ts,c1,c2,c3⟩⟩,path,lems⟩:=s
 simp only at hno hat hsl hss
 have fin:∀ (W:R) (b:Bool),o=none→W=zJ (o.getD 0)∧b=o.isSome→W=R0∧b=false:=fun W b h1 h2=>by
  rw[h1] at h2
  exact⟨by rw[h2.1];exact kB,h2.2⟩
 obtain⟨W,hW⟩:∃ W,W=zJ (o.getD 0):=⟨_,rfl⟩
 obtain⟨b,hb⟩:∃ b,b=o.isSome:=⟨_,rfl⟩
 rw[←hW,←hb]
 have fin':o=none→W=R0∧b=false:=fun h=>fin W b h ⟨hW,hb⟩
 have fin2:∀ q,o=some q→W=zJ q∧b=true:=fun q h=>by rw[h] at hW hb;exact⟨hW,hb⟩
 clear fin hW hb
 obtain⟨W1,W2,W3⟩:=W
 have fin3:o=none→W1=false∧W2=[]∧W3=[]∧b=false:=fun h=>by
  obtain⟨h1,h2⟩:=fin' h
  simp only[R.mk.injEq] at h1
  exact⟨h1.1,h1.2.1,h1.2.2,h2⟩
 clear fin'
 cbv
 refine zR (fun e1=>?_) (fun e1=>?_)
 ·cbv
  obtain⟨g1,g2,g3,g4⟩:=fin3 (hno (by omega))
  subst g1 g2 g3 g4
  (refine rC ?_;cbv)
  exact okA
 cbv
 refine zR (fun e2=>?_) (fun e2=>?_)
 ·cbv
  obtain⟨g1,g2,g3,g4⟩:=fin3 (hno (by rw[zA] at e2;(try dsimp only [zG] at *);omega))
  subst g1 g2 g3 g4
  (refine rC ?_;cbv)
  exact okA
 cbv
 rw[zA] at e2
 obtain⟨m,hm⟩:∃ m,lems[(n - 1).toNat]?=some m:=yA om
 have hat':=hat m (by omega) om hm
 have hms:=hss m (List.mem_of_getElem? hm)
 have cc:=s47 m.v hms
 have idx:∀ {K:List PV→Prop},K (lc m)→IdxOk 6 (fun _=>enc lc lems) (fun _=>n - 1) K:=fun hK=>y5 (l:=lems) (n - 1).toNat (by omega) om wT wQ (fun m' hm'=>by rw[hm] at hm';cases hm';exact hK)
 generalize hq:m.v.q=q at *
 obtain⟨mu,mup,⟨v1,v2,v3⟩,mpf⟩:=m
 simp only at hat'
 clear hat hno hq
 generalize hwq:zJ q=wq at *
 refine⟨zD om om,idx ?_⟩
 cbv
 refine zR (fun e3=>?_) (fun e3=>?_)
 ·cbv
  refine⟨zD om om,idx ?_⟩
  cbv
  refine zH (fun e4=>?_) (fun e4=>?_)
  ·cbv
   obtain⟨g1,g2⟩:=fin2 q (by rw[hat',if_pos ⟨e3,e4⟩])
   rw[hwq] at g1
   subst g1 g2
   refine⟨zD om om,idx ?_⟩
   cbv
   refine cA cc ?_
   cbv
   (refine rC ?_;cbv)
   exact okA
  ·cbv
   obtain⟨g1,g2,g3,g4⟩:=fin3 (by rw[hat',if_neg (fun h=>e4 h.2)])
   subst g1 g2 g3 g4
   (refine rC ?_;cbv)
   exact okA
 ·cbv
  obtain⟨g1,g2,g3,g4⟩:=fin3 (by rw[hat',if_neg (fun h=>e3 h.1)])
  subst g1 g2 g3 g4
  (refine rC ?_;cbv)
  exact okA
theorem bK (s:Scp)(kind unit:Int)(hs:Dsz (2^32) s.path):zE 85 [sv s,.int .i64 (fun _=>kind),.int .i64 (fun _=>unit)] (.bool (fun _=>s.dcd kind unit)):=by
 refine sF Tryz.f85 ?_
 have cf:∀ d,d∈s.path→zE 97 [qv s.q,dv d] (.bool (fun _=>d.fits s.q)):=fun d h=>zFW s.q d (hs.sz d h)
 have hpl:=hs.len
 generalize hr:s.dcd kind unit=r
 have hr0:r=(s.path.drop 0).any (fun d=>decide (d.k=kind) && (decide (d.i=unit) && d.fits s.q)):=hr.symm
 obtain⟨ft,hft⟩:∃ ft:Dec→Bool,∀ d,ft d=d.fits s.q:=⟨_,fun _=>rfl⟩
 simp only[←hft] at cf hr0
 obtain⟨P,hP⟩:∃ P:Dec→Bool,(fun d=>decide (d.k=kind) && (decide (d.i=unit) && ft d))=P:=⟨_,rfl⟩
 rw[hP] at hr0
 have hPd:∀ d,P d=(decide (d.k=kind) && (decide (d.i=unit) && ft d)):=fun d=>by rw[←hP]
 clear hP hft hr hs
 cbv
 refine zY (σ:=Nat) (fun i=>⟨[(1,.int .i64 (fun _=>kind)),(2,.int .i64 (fun _=>unit)),(3,.ptr 3 0),(7,.int .i64 (fun _=>(i:Int)))],[(3,.box (sc s))]⟩) (fun i=>i≤s.path.length∧r=(s.path.drop i).any P) (fun i=>s.path.length - i) 0 ⟨by omega,hr0⟩ (wkZ) ?_
 clear hr0
 intro i hi
 obtain⟨h1,h2⟩:=hi
 cbv
 refine zH (fun h5=>?_) (fun h5=>?_)
 ·have hlt:=jL h5
  obtain⟨d,hd⟩:=yA hlt
  have cv:=cf d (List.mem_of_getElem? hd)
  rw[zZ hd,List.any_cons,hPd] at h2
  generalize ft d=fd at *
  generalize hrest:(s.path.drop (i+1)).any P=rest at *
  cbv
  refine zO 28 (by cbv) ?_
  cbv
  refine wL hd dO cH ?_
  cbv
  refine zR (fun e1=>?_) (fun e1=>?_)
  rotate_left
  ·rw[decide_eq_false e1,Bool.false_and,Bool.false_or] at h2
   cbv
   exact⟨zD om om,i+1,⟨om,by rw[h2,hrest]⟩,om,wkZ⟩
  rw[decide_eq_true e1,Bool.true_and] at h2
  cbv
  refine wL hd dO cH ?_
  cbv
  refine zR (fun e2=>?_) (fun e2=>?_)
  rotate_left
  ·rw[decide_eq_false e2,Bool.false_and,Bool.false_or] at h2
   cbv
   exact⟨zD om om,i+1,⟨om,by rw[h2,hrest]⟩,om,wkZ⟩
  rw[decide_eq_true e2,Bool.true_and] at h2
  cbv
  refine wL hd dO cH ?_
  cbv
  refine dA cv ?_
  cbv
  refine zS (fun e3=>?_) (fun e3=>?_)
  ·rw[e3,Bool.true_or] at h2
   cbv
   (refine rC ?_;cbv)
   exact yL h2
  ·rw[e3,Bool.false_or] at h2
   cbv
   exact⟨zD om om,i+1,⟨om,by rw[h2,hrest]⟩,om,wkZ⟩
 ·have he:=cG h5 h1
  rw[he,List.drop_length] at h2
  have h2':r=false:=h2
  cbv
  (refine rC ?_;cbv)
  exact zN h2'
theorem zMB {f g:F}(hf:Cn f.ts)(hg:Cn g.ts){k n k' n':Nat}(h1:f.fl k n)(h2:g.fl k' n')(hk:k≤2^26)(hk':k'≤2^26)(hn:n≤2^35)(hn':n'≤2^35):zE 58 [fv f,fv g] (fv (f.add g)):=by
 have h:=zK6 f.ts (zJ f.c) (fA g) hf (by rw[show (fA g).ts=tR g.ts from rfl,zFK];exact hg) ⟨by have:=h1.len;omega,fun t ht=>(h1.t t ht).mono (by omega)⟩ ((z8 h1.c).mono (by omega)) ((nX h2 (by omega)).mono (by omega)) (by have:=h1.len;have:=h2.len;rw[show (fA g).ts=tR g.ts from rfl,x8];omega)
 rw[uK,z9] at h
 exact h
theorem nM {f g:F}(hf:Cn f.ts)(hg:Cn g.ts){k n k' n':Nat}(h1:f.fl k n)(h2:g.fl k' n')(hk:k≤2^26)(hk':k'≤2^26)(hn:n≤2^35)(hn':n'≤2^35):zE 124 [fv f,fv g] (fv (f.sub g)):=by
 have h:=zCS f.ts (zJ f.c) (fA g) hf (by rw[show (fA g).ts=tR g.ts from rfl,zFK];exact hg) ⟨by have:=h1.len;omega,fun t ht=>(h1.t t ht).mono (by omega)⟩ ((z8 h1.c).mono (by omega)) ((nX h2 (by omega)).mono (by omega)) (by have:=h1.len;have:=h2.len;rw[show (fA g).ts=tR g.ts from rfl,x8];omega)
 rw[uK,z9] at h
 exact h
theorem gP {f:F}{q:Rat}{k n m:Nat}(h1:f.fl k n)(hq:Fits m q)(hk:k≤2^31)(hn:n≤2^35)(hm:m≤2^31):zE 59 [fv f,rv (zJ q)] (fv (f.scale q)):=by
 have h:=iX (fA f) (zJ q) ((nX h1 (by omega)).mono (by omega)) ((z8 hq).mono (by omega))
 rw[uK,z9] at h
 exact h
theorem zFN {x:R}(h:x.ok=true):zJ x.q=x:=(of_decide_eq_true h).symm
theorem zDA {vars:Int}:∀ {ts:List (Int × R)} {p:Int},vT vars p ts=true→tR (tq ts)=ts∧Cn (tq ts)∧∀ t,t∈tq ts→p<t.1
 | [],p,_=>⟨rfl,Cn.nil,fun t h=>absurd h (by simp [tq])⟩
 | t::r,p,h=>by
  rw[lL] at h
  simp only[Bool.and_eq_true,decide_eq_true_eq] at h
  obtain⟨⟨⟨⟨⟨h1,h2⟩,h3⟩,h4⟩,h5⟩,h6⟩:=h
  obtain⟨g1,g2,g3⟩:=zDA h6
  refine⟨?_,?_,fun u hu=>?_⟩
  ·show (t.1,zJ t.2.q)::tR (tq r)=t::r
   rw[g1,zFN h5]
  ·exact Cn.cons (t:=(t.1,t.2.q)) g2 g3 h4
  ·rcases List.mem_cons.1 hu with rfl | hu
   ·exact h3
   ·have:=g3 u hu;omega
theorem jZ {a:A}{vars:Int}(h:a.valid vars=true):fA a.f=a∧Cn a.f.ts:=by
 unfold A.valid at h
 simp only[Bool.and_eq_true] at h
 obtain⟨g1,g2,_⟩:=zDA h.1
 refine⟨?_,g2⟩
 obtain⟨ts,c⟩:=a
 show (⟨tR (tq ts),zJ c.q⟩:A)=⟨ts,c⟩
 rw[g1,zFN h.2]
theorem add_zero {f:F}(h:Cn f.ts):f.add F.zero=f:=by
 refine F.ext' ?_ ?_
 ·refine (Cn.mrg h Cn.nil).ext h (fun v=>?_)
  show co (mrg 1 f.ts []) v=_
  rw[jN];simp only[co];grind
 ·show f.c+0 * 1=f.c
  grind
structure Qry.can (q:Qry):Prop where
 us:∀ a,a∈q.g.us→fA a.f=a∧Cn a.f.ts
 os:∀ a,a∈q.g.os→fA a.f=a∧Cn a.f.ts
 rows:∀ a,a∈q.r.rows→fA a.f=a∧Cn a.f.ts
 lo:∀ x,x∈q.r.lo→zJ x.q=x
 hi:∀ x,x∈q.r.hi→zJ x.q=x
theorem zRW:∀ {lo hi:List R},lo.length=hi.length→vB lo hi=true→(∀ x,x∈lo→zJ x.q=x)∧∀ x,x∈hi→zJ x.q=x:=fun he h=>by
 rw[iF he] at h
 simp only[Bool.and_eq_true,List.all_eq_true] at h
 exact⟨fun x hx=>zFN (h.1 x hx),fun x hx=>zFN (h.2.1 x hx)⟩
theorem Qry.can_of {q:Qry}(h:q.valid=true):q.can:=by
 unfold Qry.valid Grp.valid Reg.valid at h
 simp only[Bool.and_eq_true,decide_eq_true_eq,List.all_eq_true] at h
 obtain⟨⟨⟨⟨h1,h2⟩,h3⟩,⟨h4,h5⟩,h6⟩,h7⟩:=h
 obtain⟨b1,b2⟩:=zRW (by omega) h5
 refine⟨fun a ha=>?_,fun a ha=>jZ (h3 a ha),fun a ha=>jZ (h6 a ha),b1,b2⟩
 obtain⟨j,_,hj⟩:=zCP h2 ha
 exact jZ hj
end Go.Proofs.YtgcpehdkdnkgeaaGreat
