/- A part of the proof: SpG, SpH, SpI, SpJ, SpK, SpL, SpM, SpN, SpO, SpP, SpQ, SrA, SpR, SpS, SpT. -/
import Derived.Test.YtgcpehdkdnkgeaaGreatX29
import Derived.Test.YtgcpehdkdnkgeaaGreatX28
set_option linter.all false
namespace Go.Proofs.YtgcpehdkdnkgeaaGreat
open Go
theorem zO9 {N:Int}:∀ {ts:List (Int × Rat)} {p:Int},Cn ts→(∀ t,t∈ts→p<t.1∧0≤t.1∧t.1<N)→vT N p (tR ts)=true
 | [],_,_,_=>rfl
 | t::r,p,hc,h=>by
  obtain⟨h1,h2,h3⟩:=h t List.mem_cons_self
  have ih:=zO9 (N:=N) (p:=t.1) hc.tail (fun u hu=>⟨hc.lt u hu,(h u (List.mem_cons_of_mem _ hu)).2⟩)
  show (decide (0≤t.1) && decide (t.1<N) && decide (p<t.1) && decide ((zC t.2).q≠0) && (zC t.2).ok && vT N t.1 (tR r))=true
  rw[ih,zY,rH,decide_eq_true h1,decide_eq_true h2,decide_eq_true h3,decide_eq_true hc.hd]
  rfl
theorem F.wf.valid {f:F}{n:Int}(h:f.wf n):(fA f).valid n=true:=by
 have h1:=zO9 (N:=n) (p:=-1) h.cn (fun t ht=>⟨by have:=(h.v t ht).1;omega,(h.v t ht).1,(h.v t ht).2⟩)
 show (vT n (-1) (tR f.ts) && (zC f.c).ok)=true
 rw[h1,rH]
 rfl
theorem zO7:∀ {l:List F} {k:Int},(∀ (i:Nat) (f:F),l[i]?=some f→f.wf (k+i))→vU k (l.map fA)=true
 | [],_,_=>rfl
 | f::r,k,h=>by
  have h0:=h 0 f rfl
  rw[show k+((0:Nat):Int)=k by omega] at h0
  have ih:=zO7 (l:=r) (k:=k+1) (fun i g hg=>by
   have:=h (i+1) g (by simpa using hg)
   rw[show k+((i+1:Nat):Int)=k+1+i by omega] at this
   exact this)
  show ((fA f).valid k && vU (k+1) (r.map fA))=true
  rw[h0.valid,ih]
  rfl
theorem zMQ {l:List F}{n:Int}(h:∀ f,f∈l→f.wf n):(l.map fA).all (A.valid n)=true:=by
 rw[List.all_eq_true]
 intro a ha
 obtain⟨f,hf,rfl⟩:=List.mem_map.1 ha
 exact (h f hf).valid
theorem zPA:∀ {l:List (Rat × Rat)},(∀ b,b∈l→b.1≤b.2)→vB (l.map fun b=>zC b.1) (l.map fun b=>zC b.2)=true
 | [],_=>rfl
 | b::r,h=>by
  have ih:=zPA (l:=r) (fun c hc=>h c (List.mem_cons_of_mem _ hc))
  have hb:=h b List.mem_cons_self
  show ((zC b.1).ok && (zC b.2).ok && decide (y7 (zC b.1).q (zC b.2).q≤0) && vB _ _)=true
  rw[ih,rH,rH,zY,zY,decide_eq_true (by unfold y7;split <;> (try split) <;> grind)]
  rfl
theorem cC {α:Type}{l:List α}{a:α}(h:a∈l):∃ i:Nat,l[i]?=some a:=List.mem_iff_getElem?.1 h
structure FQry.ok (x:FQry):Prop where
 us:∀ (i:Nat) (f:F),x.g.us[i]?=some f→f.wf ((x.g.n+i:Nat):Int)
 os:∀ f,f∈x.g.os→f.wf ((x.g.n+x.g.us.length:Nat):Int)
 rows:∀ f,f∈x.r.rows→f.wf (x.g.n:Int)
 goal:x.goal.wf ((x.g.n+x.g.us.length:Nat):Int)
theorem cX (raw:List UInt8)(a:Nat):(fdY raw a).1.ok where
 us:=zG0 raw a
 os:=fun f hf=>by
  obtain⟨i,hi⟩:=cC hf
  have:=zDK (raw:=raw) (d:=0) hi
  rw[Nat.mul_zero,Nat.add_zero] at this
  have e:(fdY raw a).1.g.us.length=fdN raw 5 (na raw a):=gG raw 1 _ _ _
  rw[e]
  exact this
 rows:=fun f hf=>by
  obtain⟨i,hi⟩:=cC hf
  have:=zDK (raw:=raw) (d:=0) hi
  rw[Nat.mul_zero,Nat.add_zero] at this
  exact this
 goal:=zMD raw _ _
theorem FQry.small.valid {x:FQry}(h:x.small)(g:x.ok):x.q.valid=true:=by
 have h1:=h.g.n1
 have h2:=h.g.n2
 have h3:=h.g.us
 have h4:=h.g.o1
 have h5:=h.g.o2
 have h6:=h.r.bs
 have h7:=h.r.rows
 have hv:x.g.g.vars=((x.g.n+x.g.us.length:Nat):Int):=by
  show (x.g.n:Int)+((x.g.us.map fA).length:Int)=_
  rw[List.length_map];omega
 have hn:x.g.g.n=(x.g.n:Int):=rfl
 have hg:x.g.g.valid=true:=by
  unfold Grp.valid
  rw[hv]
  have a1:vU x.g.g.n x.g.g.us=true:=zO7 (l:=x.g.us) (k:=(x.g.n:Int)) (fun i f hf=>by
   have:=g.us i f hf
   rw[show ((x.g.n+i:Nat):Int)=(x.g.n:Int)+i by omega] at this
   exact this)
  have a2:x.g.g.os.all (A.valid ((x.g.n+x.g.us.length:Nat):Int))=true:=zMQ g.os
  rw[a1,a2,decide_eq_true ⟨by rw[hn];omega,by rw[hn];omega,by show (x.g.us.map fA).length≤_;rw[List.length_map];omega,by show 1≤(x.g.os.map fA).length;rw[List.length_map];omega,by show (x.g.os.map fA).length≤_;rw[List.length_map];omega⟩]
  rfl
 have hr:x.r.g.valid (x.g.n:Int)=true:=by
  unfold Reg.valid
  have a1:vB x.r.g.lo x.r.g.hi=true:=zPA h.r.ord
  have a2:x.r.g.rows.all (A.valid (x.g.n:Int))=true:=zMQ g.rows
  rw[a1,a2,decide_eq_true ⟨by omega,by omega,by show ((x.r.bs.map _).length:Int)=_;rw[List.length_map];omega,by show ((x.r.bs.map _).length:Int)=_;rw[List.length_map];omega,by show (x.r.rows.map fA).length≤_;rw[List.length_map];omega⟩]
  rfl
 have hgo:(fA x.goal).valid x.g.g.vars=true:=by rw[hv];exact g.goal.valid
 show (x.g.g.valid && x.r.g.valid x.g.g.n && (fA x.goal).valid x.g.g.vars)=true
 rw[hg,hn,hr,hgo]
 rfl
def fmD (s:Scp) (r:Row):F:=(s.fm r).getD F.zero
def SC (s:Scp) (v:Int):List (Row × Rat)→Rat
 | []=>0
 | t::r=>t.2 * co (fmD s t.1).ts v+SC s v r
def SK (s:Scp):List (Row × Rat)→Rat
 | []=>0
 | t::r=>t.2 * (fmD s t.1).c+SK s r
def AV (s:Scp) (l:List (Row × Rat)):Prop:=∀ t,t∈l→∃ f,s.fm t.1=some f
theorem zMS {s:Scp}{r:Row}{q:Rat}(hr:∃ f,s.fm r=some f):∀ {l},AV s l→AV s (plM r q l)
 | [],_=>fun t ht=>by
  have:t=(r,q):=by simpa [plM] using ht
  rw[this];exact hr
 | u::l,h=>by
  have hl:AV s l:=fun t ht=>h t (List.mem_cons_of_mem _ ht)
  unfold plM
  split
  ·intro t ht
   rcases List.mem_cons.1 ht with rfl | ht
   ·exact h _ List.mem_cons_self
   ·exact zMS hr hl t ht
  ·split
   ·intro t ht
    rcases List.mem_cons.1 ht with rfl | ht
    ·exact hr
    ·exact hl t ht
   ·intro t ht
    rcases List.mem_cons.1 ht with rfl | ht
    ·exact hr
    ·exact h t ht
theorem zO2 {s:Scp}{r:Row}{q:Rat}(hr:∃ f,s.fm r=some f){l}(h:AV s l):AV s (plMq l r q):=by
 unfold plMq
 split
 ·exact h
 ·exact zMS hr h
theorem zK5 (f:F)(c:Rat)(v:Int):co (f.scale c).ts v=co f.ts v * c:=by
 show co (mrg c [] f.ts) v=_
 rw[j6]
 simp only[co]
 grind
theorem zMK (f g:F)(v:Int):co (f.add g).ts v=co f.ts v+co g.ts v:=by
 show co (mrg 1 f.ts g.ts) v=_
 rw[j6]
 grind
theorem zR3 (f g:F)(v:Int):co (f.sub g).ts v=co f.ts v - co g.ts v:=by
 show co (mrg (-1) f.ts g.ts) v=_
 rw[j6]
 grind
theorem zBW {s:Scp}:∀ {l:List (Row × Rat)} {acc:F},AV s l→∃ f,sumL s acc (mR l)=some f∧(∀ v,co f.ts v=co acc.ts v+SC s v l)∧f.c=acc.c+SK s l∧(Cn acc.ts→(∀ r g,s.fm r=some g→Cn g.ts)→Cn f.ts)
 | [],acc,_=>⟨acc,rfl,fun v=>by simp only[SC];grind,by simp only[SK];grind,fun h _=>h⟩
 | t::l,acc,h=>by
  obtain⟨g,hg⟩:=h t List.mem_cons_self
  obtain⟨f,h1,h2,h3,h4⟩:=zBW (s:=s) (l:=l) (acc:=acc.add (g.scale t.2)) (fun u hu=>h u (List.mem_cons_of_mem _ hu))
  have hd:fmD s t.1=g:=by unfold fmD;rw[hg];rfl
  refine⟨f,?_,fun v=>?_,?_,fun hc hcn=>h4 (hc.mrg (Cn.mrg Cn.nil (hcn _ _ hg))) hcn⟩
  ·have e:mR (t::l)=⟨t.1,zC t.2⟩::mR l:=rfl
   rw[e]
   unfold sumL
   dsimp only
   rw[hg]
   dsimp only
   rw[zY]
   exact h1
  ·rw[h2,zMK,zK5]
   simp only[SC,hd]
   grind
  ·have e:(acc.add (g.scale t.2)).c=acc.c+(0+g.c * t.2) * 1:=rfl
   rw[h3,e]
   simp only[SK,hd]
   grind
theorem zGH {s:Scp}{l:List (Row × Rat)}(hr:Rs l)(ha:AV s l):∃ f,s.sum (mR l)=(0,f)∧(∀ v,co f.ts v=SC s v l)∧f.c=SK s l∧((∀ r g,s.fm r=some g→Cn g.ts)→Cn f.ts):=by
 obtain⟨f,h1,h2,h3,h4⟩:=zBW (acc:=F.zero) ha
 refine⟨f,?_,fun v=>?_,?_,fun h=>h4 Cn.nil h⟩
 ·unfold Scp.sum
  rw[iP hr (fun w e=>by cases e),h1]
  rfl
 ·rw[h2]
  have:co F.zero.ts v=0:=rfl
  rw[this]
  grind
 ·rw[h3]
  have:F.zero.c=0:=rfl
  rw[this]
  grind
theorem Cn.nil_of {l:List (Int × Rat)}(h:Cn l)(h0:∀ v,co l v=0):l=[]:=Cn.ext h Cn.nil (fun v=>by rw[h0 v];rfl)
theorem zE7 {L:List Lem}{unit:Int}:∀ {r:List Lem} {n:Nat} {b:Nat × Nat},r=L.drop n→(b.1≠0→∃ m,L[b.1 - 1]?=some m∧m.u=unit∧m.up=false)∧(b.2≠0→∃ m,L[b.2 - 1]?=some m∧m.u=unit∧m.up=true) →
  ((qR L unit n r b).1≠0→∃ m,L[(qR L unit n r b).1 - 1]?=some m∧m.u=unit∧m.up=false)∧((qR L unit n r b).2≠0→∃ m,L[(qR L unit n r b).2 - 1]?=some m∧m.u=unit∧m.up=true)
 | [],n,b,_,hb=>hb
 | m::r,n,b,hr,hb=>by
  have hm:L[n]?=some m:=by
   have:(L.drop n)[0]?=some m:=by rw[←hr];rfl
   simpa using this
  have hr':r=L.drop (n+1):=by
   have:(L.drop n).drop 1=L.drop (n+1):=by rw[List.drop_drop]
   rw[←this,←hr];rfl
  unfold qR
  refine zE7 hr' ?_
  split
  ·rename_i hu
   split
   ·rename_i hup
    split
    ·exact⟨hb.1,fun _=>⟨m,hm,hu,hup⟩⟩
    ·exact hb
   ·rename_i hup
    have hup':m.up=false:=by simpa using hup
    split
    ·exact⟨fun _=>⟨m,hm,hu,hup'⟩,hb.2⟩
    ·exact hb
  ·exact hb
theorem zCR (s:Scp)(unit:Int):((s.best unit).1≠0→∃ m,s.lems[(s.best unit).1 - 1]?=some m∧m.u=unit∧m.up=false)∧((s.best unit).2≠0→∃ m,s.lems[(s.best unit).2 - 1]?=some m∧m.u=unit∧m.up=true) :=
 zE7 (by simp) ⟨fun h=>absurd rfl h,fun h=>absurd rfl h⟩
theorem mD {s:Scp}{k:Nat}{unit:Int}{up:Bool}{m:Lem}(h0:k≠0)(hm:s.lems[k - 1]?=some m)(hu:m.u=unit)(hp:m.up=up):s.lem k unit up=some (xV s.lems k):=by
 have hl:k - 1<s.lems.length:=(List.getElem?_eq_some_iff.1 hm).1
 have e:((k:Int) - 1).toNat=k - 1:=by omega
 rw[zGT (m:=m) (by omega) (by omega) (by rw[e];exact hm),if_pos ⟨hu,hp⟩]
 unfold xV
 rw[hm]
 rfl
theorem zEK (s:Scp)(unit:Int)(up:Bool):s.lem 0 unit up=none:=zGS (by omega)
theorem kE {s:Scp}(hv:s.q.valid=true){k lo hi:Int}{i:Nat}{p:F}(hk:5≤k)(hk2:k<14)(hp:s.q.g.us[i]?=some (fA p)) :
  s.fm ⟨k,i,lo,hi⟩=unF s ⟨k,i,lo,hi⟩ p (F.var (s.q.g.n+i)) (s.lem lo i false) (s.lem hi i true):=by
 have hl:i<s.q.g.us.length:=(List.getElem?_eq_some_iff.1 hp).1
 unfold Scp.fm
 rw[if_neg (by rw[hv];simp;omega),if_neg (by show ¬ k≤4;omega)]
 unfold Scp.fUn
 rw[if_pos ⟨by show (0:Int)≤i;omega,by show (i:Int)<_;omega⟩]
 have e:((⟨k,i,lo,hi⟩:Row).i).toNat=i:=by show ((i:Int)).toNat=i;omega
 rw[e,hp]
 dsimp only
 rw[vE]
theorem zS8 {s:Scp}(hv:s.q.valid=true){i:Nat}{x:R}(hx:s.q.r.lo[i]?=some x):s.fm ⟨1,i,0,0⟩=some ((F.var i).sub (F.num x.q)):=by
 unfold Scp.fm
 rw[if_neg (by rw[hv];simp),if_pos (by show (1:Int)≤4;decide)]
 unfold Scp.fIn
 rw[if_pos ⟨rfl,by show (0:Int)≤i;omega⟩,if_pos rfl]
 have e:((⟨1,i,0,0⟩:Row).i).toNat=i:=by show ((i:Int)).toNat=i;omega
 rw[e,hx]
 rfl
theorem zS9 {s:Scp}(hv:s.q.valid=true){i:Nat}{x:R}(hx:s.q.r.hi[i]?=some x):s.fm ⟨2,i,0,0⟩=some ((F.num x.q).sub (F.var i)):=by
 unfold Scp.fm
 rw[if_neg (by rw[hv];simp),if_pos (by show (2:Int)≤4;decide)]
 unfold Scp.fIn
 rw[if_pos ⟨rfl,by show (0:Int)≤i;omega⟩,if_neg (by show ¬ (2:Int)=1;decide),if_pos rfl]
 have e:((⟨2,i,0,0⟩:Row).i).toNat=i:=by show ((i:Int)).toNat=i;omega
 rw[e,hx]
 rfl
theorem zR4 (q:Rat)(w:Int):co (F.num q).ts w=0:=rfl

theorem zHV {q:Qry}{path:List Dec}{L M:List Lem}{k u:Int}{up:Bool}{v:Rat}(h:(⟨q,path,L⟩:Scp).lem k u up=some v):(⟨q,path,L++M⟩:Scp).lem k u up=some v:=by
 unfold Scp.lem at h ⊢
 dsimp only at h ⊢
 split at h
 ·rename_i hk
  split at h
  ·rename_i m hm
   have hl:=(List.getElem?_eq_some_iff.1 hm).1
   rw[if_pos ⟨hk.1,by rw[List.length_append];omega⟩,List.getElem?_append_left hl,hm]
   exact h
  ·cases h
 ·cases h
theorem zNA {q:Qry}{path:List Dec}{L M:List Lem}{r:Row}{p v f:F}(h:unF ⟨q,path,L⟩ r p v ((⟨q,path,L⟩:Scp).lem r.lo r.i false) ((⟨q,path,L⟩:Scp).lem r.hi r.i true)=some f) :
  unF ⟨q,path,L++M⟩ r p v ((⟨q,path,L++M⟩:Scp).lem r.lo r.i false) ((⟨q,path,L++M⟩:Scp).lem r.hi r.i true)=some f:=by
 have el:=fun v (h:(⟨q,path,L⟩:Scp).lem r.lo r.i false=some v)=>zHV (M:=M) h
 have eu:=fun v (h:(⟨q,path,L⟩:Scp).lem r.hi r.i true=some v)=>zHV (M:=M) h
 have zl:r.lo=0→(⟨q,path,L++M⟩:Scp).lem r.lo r.i false=none:=fun h=>by rw[h];exact zEK _ _ _
 have zu:r.hi=0→(⟨q,path,L++M⟩:Scp).lem r.hi r.i true=none:=fun h=>by rw[h];exact zEK _ _ _
 have hd:∀ k i,(⟨q,path,L++M⟩:Scp).dcd k i=(⟨q,path,L⟩:Scp).dcd k i:=fun _ _=>rfl
 have on:∀ l,onB ⟨q,path,L⟩ r (l.getD 0) l.isSome=true→(∀ v,l=some v→(⟨q,path,L++M⟩:Scp).lem r.lo r.i false=some v)→onB ⟨q,path,L++M⟩ r (((⟨q,path,L++M⟩:Scp).lem r.lo r.i false).getD 0) ((⟨q,path,L++M⟩:Scp).lem r.lo r.i false).isSome=true:=fun l h g=>by
  unfold onB at h ⊢
  rw[hd]
  cases l with
  | some v=>rw[g v rfl];exact h
  | none =>
   simp only[Bool.and_eq_true,Bool.or_eq_true,decide_eq_true_eq,Option.isSome_none,Bool.false_eq_true,false_and,or_false] at h
   obtain⟨h1,h2,h3⟩:=h
   rw[h3,decide_eq_true h1,decide_eq_true h2]
   rfl
 have off:∀ l,sI ⟨q,path,L⟩ r (l.getD 0) l.isSome=true→(∀ v,l=some v→(⟨q,path,L++M⟩:Scp).lem r.hi r.i true=some v)→sI ⟨q,path,L++M⟩ r (((⟨q,path,L++M⟩:Scp).lem r.hi r.i true).getD 0) ((⟨q,path,L++M⟩:Scp).lem r.hi r.i true).isSome=true:=fun l h g=>by
  unfold sI at h ⊢
  rw[hd]
  cases l with
  | some v=>rw[g v rfl];exact h
  | none =>
   simp only[Bool.and_eq_true,Bool.or_eq_true,decide_eq_true_eq,Option.isSome_none,Bool.false_eq_true,false_and,or_false] at h
   obtain⟨h1,h2,h3⟩:=h
   rw[h3,decide_eq_true h1,decide_eq_true h2]
   rfl
 have two:∀ {c d:Prop} [Decidable c] [Decidable d] {x:F},(if c then some x else none)=some f→(c→d)→(if d then some x else none)=some f:=fun h g=>by
  split at h
  ·rename_i hc;rw[if_pos (g hc)];exact h
  ·cases h
 unfold unF at h ⊢
 by_cases h5:r.k=5
 ·rw[if_pos h5] at h ⊢
  exact h
 rw[if_neg h5] at h ⊢
 by_cases h6:r.k=6
 ·rw[if_pos h6] at h ⊢
  exact h
 rw[if_neg h6] at h ⊢
 by_cases h7:r.k=7
 ·rw[if_pos h7] at h ⊢
  exact two h (fun g=>on _ g el)
 rw[if_neg h7] at h ⊢
 by_cases h8:r.k=8
 ·rw[if_pos h8] at h ⊢
  exact two h (fun g=>on _ g el)
 rw[if_neg h8] at h ⊢
 by_cases h9:r.k=9
 ·rw[if_pos h9] at h ⊢
  exact two h (fun g=>off _ g eu)
 rw[if_neg h9] at h ⊢
 by_cases h10:r.k=10
 ·rw[if_pos h10] at h ⊢
  exact two h (fun g=>off _ g eu)
 rw[if_neg h10] at h ⊢
 by_cases h11:r.k=11
 ·rw[if_pos h11] at h ⊢
  cases hl:(⟨q,path,L⟩:Scp).lem r.lo r.i false with
  | none=>rw[hl] at h;simp at h
  | some v=>rw[hl] at h;rw[el v hl];exact h
 rw[if_neg h11] at h ⊢
 by_cases h12:r.k=12
 ·rw[if_pos h12] at h ⊢
  cases hl:(⟨q,path,L⟩:Scp).lem r.hi r.i true with
  | none=>rw[hl] at h;simp at h
  | some v=>rw[hl] at h;rw[eu v hl];exact h
 rw[if_neg h12] at h ⊢
 by_cases h13:r.k=13
 ·rw[if_pos h13] at h ⊢
  cases hl:(⟨q,path,L⟩:Scp).lem r.lo r.i false with
  | none=>rw[hl] at h;simp at h
  | some v =>
   cases hu:(⟨q,path,L⟩:Scp).lem r.hi r.i true with
   | none=>rw[hl,hu] at h;simp at h
   | some w=>rw[hl,hu] at h;rw[el v hl,eu w hu];exact h
 rw[if_neg h13] at h ⊢
 cases h
theorem zTH {q:Qry}{path:List Dec}{L M:List Lem}{r:Row}{f:F}(h:(⟨q,path,L⟩:Scp).fm r=some f):(⟨q,path,L++M⟩:Scp).fm r=some f:=by
 unfold Scp.fm at h ⊢
 split at h
 ·cases h
 ·rename_i hn
  rw[if_neg hn]
  split at h
  ·rename_i hk;rw[if_pos hk];exact h
  ·rename_i hk
   rw[if_neg hk]
   unfold Scp.fUn at h ⊢
   split at h
   ·rename_i hi
    rw[if_pos hi]
    split at h
    ·rename_i p hp
     dsimp only at hp ⊢
     rw[hp]
     exact zNA h
    ·cases h
   ·cases h
theorem o7 (v:Int):Cn (F.var v).ts:=Cn.nil.cons (by simp) (by show (1:Rat)≠0;decide)
theorem p5 (q:Rat):Cn (F.num q).ts:=Cn.nil
theorem dR {f g:F}(hf:Cn f.ts)(hg:Cn g.ts):Cn (f.sub g).ts:=Cn.mrg hf hg
theorem zML {f g:F}(hf:Cn f.ts)(hg:Cn g.ts):Cn (f.add g).ts:=Cn.mrg hf hg
theorem s4 {f:F}{c:Rat}(hf:Cn f.ts):Cn (f.scale c).ts:=Cn.mrg Cn.nil hf
theorem zLH {s:Scp}{r:Row}{p v f:F}{l u:Option Rat}(hp:Cn p.ts)(hv:Cn v.ts)(h:unF s r p v l u=some f):Cn f.ts:=by
 have two:∀ {c:Prop} [Decidable c] {x:F},(if c then some x else none)=some f→x=f:=fun h=>by
  split at h
  ·exact Option.some.inj h
  ·cases h
 unfold unF at h
 by_cases h5:r.k=5
 ·rw[if_pos h5] at h;rw[←two h];exact hv
 rw[if_neg h5] at h
 by_cases h6:r.k=6
 ·rw[if_pos h6] at h;rw[←two h];exact dR hv hp
 rw[if_neg h6] at h
 by_cases h7:r.k=7
 ·rw[if_pos h7] at h;rw[←two h];exact zML hp Cn.nil
 rw[if_neg h7] at h
 by_cases h8:r.k=8
 ·rw[if_pos h8] at h;rw[←two h];exact dR hp hv
 rw[if_neg h8] at h
 by_cases h9:r.k=9
 ·rw[if_pos h9] at h;rw[←two h];exact s4 hp
 rw[if_neg h9] at h
 by_cases h10:r.k=10
 ·rw[if_pos h10] at h;rw[←two h];exact s4 hv
 rw[if_neg h10] at h
 by_cases h11:r.k=11
 ·rw[if_pos h11] at h;rw[←two h];exact dR hp (p5 _)
 rw[if_neg h11] at h
 by_cases h12:r.k=12
 ·rw[if_pos h12] at h;rw[←two h];exact dR (p5 _) hp
 rw[if_neg h12] at h
 by_cases h13:r.k=13
 ·rw[if_pos h13] at h;rw[←two h];exact dR (s4 (dR hp (p5 _))) (s4 hv)
 rw[if_neg h13] at h
 cases h
theorem zRV {s:Scp}{x:FQry}(hq:s.q=x.q)(hx:x.ok){r:Row}{f:F}(h:s.fIn r=some f):Cn f.ts:=by
 unfold Scp.fIn at h
 by_cases h0:r.plain=true∧0≤r.i
 ·rw[if_pos h0] at h
  by_cases h1:r.k=1
  ·rw[if_pos h1] at h
   obtain⟨y,_,rfl⟩:=Option.map_eq_some_iff.1 h
   exact dR (o7 _) (p5 _)
  rw[if_neg h1] at h
  by_cases h2:r.k=2
  ·rw[if_pos h2] at h
   obtain⟨y,_,rfl⟩:=Option.map_eq_some_iff.1 h
   exact dR (p5 _) (o7 _)
  rw[if_neg h2] at h
  by_cases h3:r.k=3
  ·rw[if_pos h3] at h
   obtain⟨y,hy,rfl⟩:=Option.map_eq_some_iff.1 h
   have hm:=List.mem_of_getElem? hy
   rw[hq] at hm
   obtain⟨g,hg,rfl⟩:=List.mem_map.1 hm
   rw[vE]
   exact zML (hx.rows g hg).cn Cn.nil
  rw[if_neg h3] at h
  by_cases h4:r.k=4
  ·rw[if_pos h4] at h
   split at h
   ·rename_i d hd
    split at h
    ·split at h
     ·cases h;exact dR (o7 _) (p5 _)
     ·split at h
      ·cases h;exact s4 (dR (o7 _) (p5 _))
      ·cases h
    ·cases h
   ·cases h
  rw[if_neg h4] at h
  cases h
 ·rw[if_neg h0] at h;cases h
theorem zTA {s:Scp}{x:FQry}(hq:s.q=x.q)(hx:x.ok)(r:Row)(f:F)(h:s.fm r=some f):Cn f.ts:=by
 unfold Scp.fm at h
 split at h
 ·cases h
 ·split at h
  ·exact zRV hq hx h
  ·unfold Scp.fUn at h
   split at h
   ·split at h
    ·rename_i p hp
     rw[hq] at hp
     have hp':(x.g.us.map fA)[r.i.toNat]?=some p:=hp
     rw[List.getElem?_map] at hp'
     obtain⟨g,hg,rfl⟩:=Option.map_eq_some_iff.1 hp'
     rw[vE] at h
     exact zLH (hx.us _ g hg).cn (o7 _) h
    ·cases h
   ·cases h
theorem F.wf.sub {f g:F}{n:Int}(hf:f.wf n)(hg:g.wf n):(f.sub g).wf n:=hf.merge hg
theorem zIT {s:Scp}{x:FQry}(hq:s.q=x.q)(hx:x.ok){l:List (Row × Rat)}{f:F}{N:Int}(hr:Rs l)(ha:AV s l)(hf:f.wf N)(hN:N≤9223372036854775807)(hc:∀ w,co f.ts w=SC s w l)(hk:SK s l≤f.c):s.proves (fA f) (mR l)=true:=by
 obtain⟨g,h1,h2,h3,h4⟩:=zGH hr ha
 have hg:=h4 (zTA hq hx)
 have hts:(f.sub g).ts=[]:=(dR hf.cn hg).nil_of (fun w=>by rw[zR3,h2,hc];grind)
 have hcc:(f.sub g).c=f.c+g.c * -1:=rfl
 unfold Scp.proves
 rw[vE,h1,hts,(hf.mono hN).valid,decide_eq_true (p:=(0:Int)≤yB (f.sub g).c) (by
  have:¬ (f.sub g).c<0:=by rw[hcc,h3];grind
  by_cases hs:yB (f.sub g).c<0
  ·exact absurd (zBY.1 hs) this
  ·omega)]
 rfl
def Scp.onU (s:Scp) (j:Int):Bool:=s.dcd 1 j || (decide (0<(s.best j).1) && decide (0≤yB (xV s.lems (s.best j).1)))
def Scp.offU (s:Scp) (j:Int):Bool:=s.dcd 2 j || (decide (0<(s.best j).2) && decide (yB (xV s.lems (s.best j).2)≤0))
def Scp.rowsOn (s:Scp) (j:Int):List Row :=
 let b:Int:=if s.dcd 1 j=true then 0 else ((s.best j).1:Int)
 [⟨6,j,0,0⟩,⟨7,j,b,0⟩,⟨8,j,b,0⟩]
def Scp.rowsOff (s:Scp) (j:Int):List Row :=
 let b:Int:=if s.dcd 2 j=true then 0 else ((s.best j).2:Int)
 [⟨5,j,0,0⟩,⟨9,j,0,b⟩,⟨10,j,0,b⟩]
def Scp.rowsOpen (s:Scp) (j:Int):List Row :=
 [⟨5,j,0,0⟩,⟨6,j,0,0⟩]++(if 0<(s.best j).1 then [⟨11,j,((s.best j).1:Int),0⟩] else [])++(if 0<(s.best j).2 then [⟨12,j,0,((s.best j).2:Int)⟩] else []) ++
  (if 0<(s.best j).1∧0<(s.best j).2 then [⟨13,j,((s.best j).1:Int),((s.best j).2:Int)⟩] else [])
def Scp.rowsU (s:Scp) (j:Int):List Row :=
 (if s.onU j=true then s.rowsOn j else [])++(if s.offU j=true then s.rowsOff j else [])++(if s.onU j=true∨s.offU j=true then [] else s.rowsOpen j)
def Scp.all (s:Scp):List Row :=
 if s.q.valid=false then [] else
 ((List.range s.q.g.n.toNat).flatMap fun i:Nat=>[(⟨1,(i:Int),0,0⟩:Row),⟨2,(i:Int),0,0⟩])++((List.range s.q.r.rows.length).map fun i:Nat=>(⟨3,(i:Int),0,0⟩:Row)) ++
  (((List.range s.path.length).filter fun i:Nat=>(s.fm ⟨4,(i:Int),0,0⟩).isSome).map fun i:Nat=>(⟨4,(i:Int),0,0⟩:Row))++((List.range s.q.g.us.length).flatMap fun j:Nat=>s.rowsU (j:Int))
def pY:List Row→List UInt8→List (Row × Rat)→List (Row × Rat)
 | r::rs,w::ws,l=>pY rs ws (plMq l r (uD ((w % 8).toNat:Int) 4))
 | _,_,l=>l
theorem zOU (a:Nat):0≤uD (a:Int) 4:=by
 unfold uD
 rw[show (4:Int)=((4:Nat):Int) from rfl,Rat.divInt_ofNat,Rat.mkRat_eq_div,Rat.div_def]
 refine Rat.mul_nonneg ?_ ?_
 ·exact Rat.intCast_nonneg.2 (by omega)
 ·exact Rat.le_of_lt (Rat.inv_pos.2 (by decide +kernel))
theorem zH8:∀ {rs:List Row} {ws:List UInt8} {l:List (Row × Rat)},Rs l→Rs (pY rs ws l)
 | [],_,_,h=>by unfold pY;exact h
 | _::_,[],_,h=>by unfold pY;exact h
 | r::rs,w::ws,l,h=>by unfold pY;exact zH8 (zOE h (zOU _))
theorem zH9 {s:Scp}:∀ {rs:List Row} {ws:List UInt8} {l:List (Row × Rat)},(∀ r,r∈rs→∃ f,s.fm r=some f)→AV s l→AV s (pY rs ws l)
 | [],_,_,_,h=>by unfold pY;exact h
 | _::_,[],_,_,h=>by unfold pY;exact h
 | r::rs,w::ws,l,hr,h=>by unfold pY;exact zH9 (fun u hu=>hr u (List.mem_cons_of_mem _ hu)) (zO2 (hr r List.mem_cons_self) h)
theorem zCB {s:Scp}{j k:Int}{b:Int}(h:s.onU j=true)(hb:b=if s.dcd 1 j=true then 0 else ((s.best j).1:Int)):onB s ⟨k,j,b,0⟩ ((s.lem b j false).getD 0) (s.lem b j false).isSome=true:=by
 unfold onB
 by_cases hd:s.dcd 1 j=true
 ·rw[if_pos hd] at hb
  rw[hb]
  dsimp only
  rw[hd]
  simp
 ·rw[if_neg hd] at hb
  unfold Scp.onU at h
  have hd':s.dcd 1 j=false:=by simpa using hd
  rw[hd',Bool.false_or,Bool.and_eq_true,decide_eq_true_eq,decide_eq_true_eq] at h
  obtain⟨h1,h2⟩:=h
  obtain⟨m,c1,c2,c3⟩:=(zCR s j).1 (by omega)
  rw[hb,mD (by omega) c1 c2 c3]
  simp [h2]
theorem eX {s:Scp}{j k:Int}{b:Int}(h:s.offU j=true)(hb:b=if s.dcd 2 j=true then 0 else ((s.best j).2:Int)):sI s ⟨k,j,0,b⟩ ((s.lem b j true).getD 0) (s.lem b j true).isSome=true:=by
 unfold sI
 by_cases hd:s.dcd 2 j=true
 ·rw[if_pos hd] at hb
  rw[hb]
  dsimp only
  rw[hd]
  simp
 ·rw[if_neg hd] at hb
  unfold Scp.offU at h
  have hd':s.dcd 2 j=false:=by simpa using hd
  rw[hd',Bool.false_or,Bool.and_eq_true,decide_eq_true_eq,decide_eq_true_eq] at h
  obtain⟨h1,h2⟩:=h
  obtain⟨m,c1,c2,c3⟩:=(zCR s j).2 (by omega)
  rw[hb,mD (by omega) c1 c2 c3]
  simp [h2]
theorem zS3 {s:Scp}(hv:s.q.valid=true){i:Nat}{p:F}(hp:s.q.g.us[i]?=some (fA p))(h:s.onU i=true):∀ r,r∈s.rowsOn i→∃ f,s.fm r=some f:=fun r hr=>by
 unfold Scp.rowsOn at hr
 obtain⟨b,hb⟩:∃ b:Int,b=if s.dcd 1 i=true then 0 else ((s.best i).1:Int):=⟨_,rfl⟩
 rw[←hb] at hr
 have hon:=fun k=>zCB (k:=k) h hb
 have:r=⟨6,i,0,0⟩∨r=⟨7,i,b,0⟩∨r=⟨8,i,b,0⟩:=by simpa using hr
 rcases this with h | h | h <;> rw[h,kE hv (by decide) (by decide) hp]
 ·exact⟨_,rfl⟩
 ·exact⟨p.add F.zero,by
   show (if onB s ⟨7,i,b,0⟩ _ _=true then _ else none)=_
   rw[if_pos (hon 7)]⟩
 ·exact⟨p.sub (F.var (s.q.g.n+i)),by
   show (if onB s ⟨8,i,b,0⟩ _ _=true then _ else none)=_
   rw[if_pos (hon 8)]⟩
theorem zRI {s:Scp}(hv:s.q.valid=true){i:Nat}{p:F}(hp:s.q.g.us[i]?=some (fA p))(h:s.offU i=true):∀ r,r∈s.rowsOff i→∃ f,s.fm r=some f:=fun r hr=>by
 unfold Scp.rowsOff at hr
 obtain⟨b,hb⟩:∃ b:Int,b=if s.dcd 2 i=true then 0 else ((s.best i).2:Int):=⟨_,rfl⟩
 rw[←hb] at hr
 have hoff:=fun k=>eX (k:=k) h hb
 have:r=⟨5,i,0,0⟩∨r=⟨9,i,0,b⟩∨r=⟨10,i,0,b⟩:=by simpa using hr
 rcases this with h | h | h <;> rw[h,kE hv (by decide) (by decide) hp]
 ·exact⟨_,rfl⟩
 ·exact⟨p.scale (-1),by
   show (if sI s ⟨9,i,0,b⟩ _ _=true then _ else none)=_
   rw[if_pos (hoff 9)]⟩
 ·exact⟨(F.var (s.q.g.n+i)).scale (-1),by
   show (if sI s ⟨10,i,0,b⟩ _ _=true then _ else none)=_
   rw[if_pos (hoff 10)]⟩
theorem zOF {s:Scp}(hv:s.q.valid=true){i:Nat}{p:F}(hp:s.q.g.us[i]?=some (fA p))(h1:¬ s.onU i=true)(h2:¬ s.offU i=true):∀ r,r∈s.rowsOpen i→∃ f,s.fm r=some f:=fun r hr=>by
 obtain⟨b1,b2⟩:=zCR s i
 have lo:0<(s.best i).1→s.lem ((s.best i).1:Int) i false=some (xV s.lems (s.best i).1)∧yB (xV s.lems (s.best i).1)<0:=fun h=>by
  obtain⟨m,c1,c2,c3⟩:=b1 (by omega)
  refine⟨mD (by omega) c1 c2 c3,?_⟩
  by_cases g:yB (xV s.lems (s.best i).1)<0
  ·exact g
  ·exact absurd (by unfold Scp.onU;rw[decide_eq_true h,decide_eq_true (p:=0≤yB (xV s.lems (s.best i).1)) (by omega)];simp) h1
 have hi:0<(s.best i).2→s.lem ((s.best i).2:Int) i true=some (xV s.lems (s.best i).2)∧0<yB (xV s.lems (s.best i).2):=fun h=>by
  obtain⟨m,c1,c2,c3⟩:=b2 (by omega)
  refine⟨mD (by omega) c1 c2 c3,?_⟩
  by_cases g:0<yB (xV s.lems (s.best i).2)
  ·exact g
  ·exact absurd (by unfold Scp.offU;rw[decide_eq_true h,decide_eq_true (p:=yB (xV s.lems (s.best i).2)≤0) (by omega)];simp) h2
 unfold Scp.rowsOpen at hr
 rcases List.mem_append.1 hr with hr | hr
 ·rcases List.mem_append.1 hr with hr | hr
  ·rcases List.mem_append.1 hr with hr | hr
   ·have:r=⟨5,i,0,0⟩∨r=⟨6,i,0,0⟩:=by simpa using hr
    rcases this with h | h <;> rw[h,kE hv (by decide) (by decide) hp]
    ·exact⟨_,rfl⟩
    ·exact⟨_,rfl⟩
   ·split at hr
    ·rename_i h
     have:r=⟨11,i,((s.best i).1:Int),0⟩:=by simpa using hr
     rw[this,kE hv (by decide) (by decide) hp,(lo h).1]
     exact⟨_,rfl⟩
    ·exact absurd hr (by simp)
  ·split at hr
   ·rename_i h
    have:r=⟨12,i,0,((s.best i).2:Int)⟩:=by simpa using hr
    rw[this,kE hv (by decide) (by decide) hp,(hi h).1]
    exact⟨_,rfl⟩
   ·exact absurd hr (by simp)
 ·split at hr
  ·rename_i h
   have:r=⟨13,i,((s.best i).1:Int),((s.best i).2:Int)⟩:=by simpa using hr
   rw[this,kE hv (by decide) (by decide) hp,(lo h.1).1,(hi h.2).1]
   refine⟨((p.sub (F.num (xV s.lems (s.best i).1))).scale (xV s.lems (s.best i).2)).sub ((F.var (s.q.g.n+i)).scale (xV s.lems (s.best i).2 - xV s.lems (s.best i).1)),?_⟩
   show (if _∧_∧_∧_ then _ else none)=_
   rw[if_pos ⟨rfl,rfl,(lo h.1).2,(hi h.2).2⟩]
   rfl
  ·exact absurd hr (by simp)
theorem zOM {s:Scp}(hv:s.q.valid=true){i:Nat}{x:A}(hx:s.q.r.rows[i]?=some x):∃ f,s.fm ⟨3,i,0,0⟩=some f:=by
 unfold Scp.fm
 rw[if_neg (by rw[hv];simp),if_pos (by show (3:Int)≤4;decide)]
 unfold Scp.fIn
 rw[if_pos ⟨rfl,by show (0:Int)≤i;omega⟩,if_neg (by show ¬ (3:Int)=1;decide),if_neg (by show ¬ (3:Int)=2;decide),if_pos rfl]
 have e:((⟨3,i,0,0⟩:Row).i).toNat=i:=by show ((i:Int)).toNat=i;omega
 rw[e,hx]
 exact⟨_,rfl⟩
theorem zDS {s:Scp}{x:FQry}(hq:s.q=x.q)(hs:x.small)(hx:x.ok):∀ r,r∈s.all→∃ f,s.fm r=some f:=fun r hr=>by
 have hv:s.q.valid=true:=by rw[hq];exact hs.valid hx
 have hn:s.q.g.n=(x.g.n:Int):=by rw[hq];rfl
 unfold Scp.all at hr
 rw[if_neg (by rw[hv];decide)] at hr
 rcases List.mem_append.1 hr with hr | hr
 ·rcases List.mem_append.1 hr with hr | hr
  ·rcases List.mem_append.1 hr with hr | hr
   ·obtain⟨i,hi,h⟩:=List.mem_flatMap.1 hr
    have hi':i<x.g.n:=by have:=List.mem_range.1 hi;omega
    have:r=⟨1,i,0,0⟩∨r=⟨2,i,0,0⟩:=by simpa using h
    rcases this with h | h
    ·obtain⟨y,hy⟩:∃ y,s.q.r.lo[i]?=some y:=zS (by
      rw[hq]
      show i<(x.r.bs.map _).length
      rw[List.length_map,hs.r.bs];exact hi')
     rw[h];exact⟨_,zS8 hv hy⟩
    ·obtain⟨y,hy⟩:∃ y,s.q.r.hi[i]?=some y:=zS (by
      rw[hq]
      show i<(x.r.bs.map _).length
      rw[List.length_map,hs.r.bs];exact hi')
     rw[h];exact⟨_,zS9 hv hy⟩
   ·obtain⟨i,hi,rfl⟩:=List.mem_map.1 hr
    obtain⟨y,hy⟩:∃ y,s.q.r.rows[i]?=some y:=zS (List.mem_range.1 hi)
    exact zOM hv hy
  ·obtain⟨i,hi,rfl⟩:=List.mem_map.1 hr
   have h:=(List.mem_filter.1 hi).2
   exact Option.isSome_iff_exists.1 h
 ·obtain⟨j,hj,h⟩:=List.mem_flatMap.1 hr
  have hj':j<x.g.us.length:=by
   have:=List.mem_range.1 hj
   rw[hq] at this
   have e:x.q.g.us.length=x.g.us.length:=by show (List.map fA _).length=_;rw[List.length_map]
   omega
  have hp:s.q.g.us[j]?=some (fA x.g.us[j]):=by
   rw[hq]
   show (x.g.us.map fA)[j]?=_
   rw[List.getElem?_map]
   simp [hj']
  unfold Scp.rowsU at h
  rcases List.mem_append.1 h with h | h
  ·rcases List.mem_append.1 h with h | h
   ·split at h
    ·rename_i ho;exact zS3 hv hp ho r h
    ·exact absurd h (by simp)
   ·split at h
    ·rename_i ho;exact zRI hv hp ho r h
    ·exact absurd h (by simp)
  ·split at h
   ·exact absurd h (by simp)
   ·rename_i ho
    exact zOF hv hp (fun g=>ho (.inl g)) (fun g=>ho (.inr g)) r h
theorem zTE {s:Scp}{x:FQry}(hq:s.q=x.q)(hs:x.small)(hx:x.ok)(ws:List UInt8):Rs (pY s.all ws [])∧AV s (pY s.all ws []):=⟨zH8 Rs.nil,zH9 (zDS hq hs hx) (fun t ht=>absurd ht (by simp))⟩
theorem pF {α β:Type}{f:α→β}:∀ {l:List α},(l.map f).Nodup→l.Nodup
 | [],_=>List.nodup_nil
 | a::l,h=>by
  rw[List.map_cons,List.nodup_cons] at h
  rw[List.nodup_cons]
  exact⟨fun ha=>h.1 (List.mem_map.2 ⟨a,ha,rfl⟩),pF h.2⟩
theorem zCZ (s:Scp)(j:Int):((s.rowsU j).map Row.k).Nodup:=by
 unfold Scp.rowsU Scp.rowsOn Scp.rowsOff Scp.rowsOpen
 cases s.onU j <;> cases s.offU j <;> simp only[if_true,if_false,Bool.false_eq_true,or_false,or_true,false_or,List.nil_append,List.append_nil,List.map_append,List.map_cons,List.map_nil]
 ·by_cases h1:0<(s.best j).1 <;> by_cases h2:0<(s.best j).2 <;> simp [h1,h2]
 ·decide
 ·decide
 ·decide
theorem eP (s:Scp)(j:Int)(r:Row)(h:r∈s.rowsU j):5≤r.k∧r.i=j:=by
 have hl:∀ l:List Row,(l.all fun r=>decide (5≤r.k∧r.i=j))=true→∀ r∈l,5≤r.k∧r.i=j:=fun l h r hr=>of_decide_eq_true (List.all_eq_true.1 h r hr)
 refine hl (s.rowsU j) ?_ r h
 unfold Scp.rowsU Scp.rowsOn Scp.rowsOff Scp.rowsOpen
 simp only[List.all_append,Bool.and_eq_true]
 refine⟨⟨?_,?_⟩,?_⟩ <;> (repeat' split) <;> simp [List.all_append]
theorem oQ {α:Type}{g:Nat→List α}{n:Nat}(h1:∀ i,i<n→(g i).Nodup)(h2:∀ i j,i<j→j<n→∀ a,a∈g i→a ∉ g j):((List.range n).flatMap g).Nodup:=by
 induction n with
 | zero=>simp
 | succ n ih =>
  rw[List.range_succ,List.flatMap_append,List.nodup_append]
  refine⟨ih (fun i hi=>h1 i (by omega)) (fun i j hij hj=>h2 i j hij (by omega)),by simpa using h1 n (by omega),fun a ha b hb e=>?_⟩
  subst e
  obtain⟨i,hi,hia⟩:=List.mem_flatMap.1 ha
  exact h2 i n (List.mem_range.1 hi) (by omega) a hia (by simpa using hb)
theorem zJF (s:Scp):s.all.Nodup:=by
 unfold Scp.all
 split
 ·exact List.nodup_nil
 have k1:∀ r:Row,r∈((List.range s.q.g.n.toNat).flatMap fun i:Nat=>[(⟨1,(i:Int),0,0⟩:Row),⟨2,(i:Int),0,0⟩])→r.k≤2:=fun r hr=>by
  obtain⟨i,_,h⟩:=List.mem_flatMap.1 hr
  simp only[List.mem_cons,List.not_mem_nil,or_false] at h
  rcases h with rfl | rfl
  ·show (1:Int)≤2;decide
  ·show (2:Int)≤2;decide
 have k2:∀ r:Row,r∈((List.range s.q.r.rows.length).map fun i:Nat=>(⟨3,(i:Int),0,0⟩:Row))→r.k=3:=fun r hr=>by
  obtain⟨i,_,rfl⟩:=List.mem_map.1 hr;rfl
 have k3:∀ r:Row,r∈(((List.range s.path.length).filter fun i:Nat=>(s.fm ⟨4,(i:Int),0,0⟩).isSome).map fun i:Nat=>(⟨4,(i:Int),0,0⟩:Row))→r.k=4:=fun r hr=>by
  obtain⟨i,_,rfl⟩:=List.mem_map.1 hr;rfl
 have k4:∀ r:Row,r∈((List.range s.q.g.us.length).flatMap fun j:Nat=>s.rowsU (j:Int))→5≤r.k:=fun r hr=>by
  obtain⟨j,_,h⟩:=List.mem_flatMap.1 hr
  exact (eP s j r h).1
 have n1:((List.range s.q.g.n.toNat).flatMap fun i:Nat=>[(⟨1,(i:Int),0,0⟩:Row),⟨2,(i:Int),0,0⟩]).Nodup:=by
  refine oQ (fun i _=>?_) (fun i j hij _ a ha hb=>?_)
  ·rw[List.nodup_cons]
   refine⟨fun h=>?_,by simp⟩
   simp only[List.mem_singleton,Row.mk.injEq] at h
   exact absurd h.1 (by decide)
  ·simp only[List.mem_cons,List.not_mem_nil,or_false] at ha hb
   rcases ha with rfl | rfl <;> rcases hb with h | h <;> simp only[Row.mk.injEq] at h <;> omega
 have n2:((List.range s.q.r.rows.length).map fun i:Nat=>(⟨3,(i:Int),0,0⟩:Row)).Nodup:=by
  rw[List.Nodup,List.pairwise_map]
  exact (List.nodup_range).imp fun h e=>h (by simp only[Row.mk.injEq] at e;omega)
 have n3:(((List.range s.path.length).filter fun i:Nat=>(s.fm ⟨4,(i:Int),0,0⟩).isSome).map fun i:Nat=>(⟨4,(i:Int),0,0⟩:Row)).Nodup:=by
  rw[List.Nodup,List.pairwise_map]
  exact (List.Pairwise.filter _ List.nodup_range).imp fun h e=>h (by simp only[Row.mk.injEq] at e;omega)
 have n4:((List.range s.q.g.us.length).flatMap fun j:Nat=>s.rowsU (j:Int)).Nodup:=by
  refine oQ (fun j _=>pF (zCZ s j)) (fun i j hij _ a ha hb=>?_)
  have h1:=(eP s i a ha).2
  have h2:=(eP s j a hb).2
  omega
 rw[List.nodup_append,List.nodup_append,List.nodup_append]
 refine⟨⟨⟨n1,n2,fun a ha b hb e=>?_⟩,n3,fun a ha b hb e=>?_⟩,n4,fun a ha b hb e=>?_⟩
 ·subst e
  have h1:=k1 a ha
  have h2:=k2 a hb
  omega
 ·subst e
  have h2:=k3 a hb
  rcases List.mem_append.1 ha with ha | ha
  ·have h1:=k1 a ha;omega
  ·have h1:=k2 a ha;omega
 ·subst e
  have h2:=k4 a hb
  rcases List.mem_append.1 ha with ha | ha
  ·rcases List.mem_append.1 ha with ha | ha
   ·have h1:=k1 a ha;omega
   ·have h1:=k2 a ha;omega
  ·have h1:=k3 a ha;omega
theorem zIV {α:Type}{l:List α}(h:l.Nodup){i k:Nat}{a b:α}(hi:l[i]?=some a)(hk:l[k]?=some b)(hne:k≠i):b≠a:=fun e=>by
 subst e
 obtain⟨h1,h2⟩:=List.getElem?_eq_some_iff.1 hi
 obtain⟨h3,h4⟩:=List.getElem?_eq_some_iff.1 hk
 have:=List.pairwise_iff_getElem.1 h
 rcases Nat.lt_or_ge k i with g | g
 ·exact this k i h3 h1 g (by rw[h4,h2])
 ·exact this i k h1 h3 (by omega) (by rw[h4,h2])
theorem zP3 {s:Scp}{r:Row}{p v f:F}{l u:Option Rat}{N:Int}(hp:p.wf N)(hv:v.wf N)(h:unF s r p v l u=some f):f.wf N:=by
 have two:∀ {c:Prop} [Decidable c] {x:F},(if c then some x else none)=some f→x=f:=fun h=>by
  split at h
  ·exact Option.some.inj h
  ·cases h
 have num:=fun q=>F.wf.num q N
 unfold unF at h
 by_cases h5:r.k=5
 ·rw[if_pos h5] at h;rw[←two h];exact hv
 rw[if_neg h5] at h
 by_cases h6:r.k=6
 ·rw[if_pos h6] at h;rw[←two h];exact hv.sub hp
 rw[if_neg h6] at h
 by_cases h7:r.k=7
 ·rw[if_pos h7] at h;rw[←two h];exact hp.add (F.wf.zero0 N)
 rw[if_neg h7] at h
 by_cases h8:r.k=8
 ·rw[if_pos h8] at h;rw[←two h];exact hp.sub hv
 rw[if_neg h8] at h
 by_cases h9:r.k=9
 ·rw[if_pos h9] at h;rw[←two h];exact hp.scale
 rw[if_neg h9] at h
 by_cases h10:r.k=10
 ·rw[if_pos h10] at h;rw[←two h];exact hv.scale
 rw[if_neg h10] at h
 by_cases h11:r.k=11
 ·rw[if_pos h11] at h;rw[←two h];exact hp.sub (num _)
 rw[if_neg h11] at h
 by_cases h12:r.k=12
 ·rw[if_pos h12] at h;rw[←two h];exact (num _).sub hp
 rw[if_neg h12] at h
 by_cases h13:r.k=13
 ·rw[if_pos h13] at h;rw[←two h];exact (hp.sub (num _)).scale.sub hv.scale
 rw[if_neg h13] at h
 cases h
theorem zG8 {s:Scp}{N:Int}(hf:∀ r g,s.fm r=some g→g.wf N):∀ {l:List (Row × Rat)} {acc f:F},acc.wf N→sumL s acc (mR l)=some f→f.wf N
 | [],acc,f,ha,h=>by cases h;exact ha
 | t::r,acc,f,ha,h=>by
  have e:mR (t::r)=⟨t.1,zC t.2⟩::mR r:=rfl
  rw[e] at h
  unfold sumL at h
  dsimp only at h
  split at h
  ·cases h
  ·rename_i g hg
   exact zG8 hf (ha.add (hf _ _ hg).scale) h
theorem zRT {s:Scp}{x:FQry}(hq:s.q=x.q)(hs:x.small)(hx:x.ok){r:Row}{f:F}(h:s.fIn r=some f):f.wf ((x.g.n+x.g.us.length:Nat):Int):=by
 have hn:s.q.g.n=(x.g.n:Int):=by rw[hq];rfl
 have num:=fun q=>F.wf.num q ((x.g.n+x.g.us.length:Nat):Int)
 have hlo:s.q.r.lo.length=x.g.n:=by rw[hq];show (x.r.bs.map _).length=_;rw[List.length_map,hs.r.bs]
 have hhi:s.q.r.hi.length=x.g.n:=by rw[hq];show (x.r.bs.map _).length=_;rw[List.length_map,hs.r.bs]
 unfold Scp.fIn at h
 by_cases h0:r.plain=true∧0≤r.i
 ·rw[if_pos h0] at h
  by_cases h1:r.k=1
  ·rw[if_pos h1] at h
   obtain⟨y,hy,rfl⟩:=Option.map_eq_some_iff.1 h
   have:=(List.getElem?_eq_some_iff.1 hy).1
   exact (F.wf.var h0.2 (by omega)).sub (num _)
  rw[if_neg h1] at h
  by_cases h2:r.k=2
  ·rw[if_pos h2] at h
   obtain⟨y,hy,rfl⟩:=Option.map_eq_some_iff.1 h
   have:=(List.getElem?_eq_some_iff.1 hy).1
   exact (num _).sub (F.wf.var h0.2 (by omega))
  rw[if_neg h2] at h
  by_cases h3:r.k=3
  ·rw[if_pos h3] at h
   obtain⟨y,hy,rfl⟩:=Option.map_eq_some_iff.1 h
   have hm:=List.mem_of_getElem? hy
   rw[hq] at hm
   obtain⟨g,hg,rfl⟩:=List.mem_map.1 hm
   rw[vE]
   exact ((hx.rows g hg).mono (by omega)).add (F.wf.zero0 _)
  rw[if_neg h3] at h
  by_cases h4:r.k=4
  ·rw[if_pos h4] at h
   split at h
   ·rename_i d hd
    split at h
    ·rename_i hfit
     have hdi:d.k=3∨d.k=4→0≤d.i∧d.i<((x.g.n+x.g.us.length:Nat):Int):=fun hk=>by
      unfold Dec.fits at hfit
      rw[if_neg (by omega),if_pos hk,Bool.and_eq_true,decide_eq_true_eq] at hfit
      omega
     split at h
     ·rename_i hk
      cases h
      obtain⟨d1,d2⟩:=hdi (.inl hk)
      exact (F.wf.var d1 d2).sub (num _)
     ·split at h
      ·rename_i hk
       cases h
       obtain⟨d1,d2⟩:=hdi (.inr hk)
       exact ((F.wf.var d1 d2).sub (num _)).scale
      ·cases h
    ·cases h
   ·cases h
  rw[if_neg h4] at h
  cases h
 ·rw[if_neg h0] at h;cases h
theorem zM5 {s:Scp}{x:FQry}(hq:s.q=x.q)(hs:x.small)(hx:x.ok)(r:Row)(f:F)(h:s.fm r=some f):f.wf ((x.g.n+x.g.us.length:Nat):Int):=by
 have hn:s.q.g.n=(x.g.n:Int):=by rw[hq];rfl
 unfold Scp.fm at h
 split at h
 ·cases h
 ·split at h
  ·exact zRT hq hs hx h
  ·unfold Scp.fUn at h
   split at h
   ·rename_i hi
    split at h
    ·rename_i p hp
     have hl:=(List.getElem?_eq_some_iff.1 hp).1
     rw[hq] at hp
     have hp':(x.g.us.map fA)[r.i.toNat]?=some p:=hp
     rw[List.getElem?_map] at hp'
     obtain⟨g,hg,rfl⟩:=Option.map_eq_some_iff.1 hp'
     have hl2:=(List.getElem?_eq_some_iff.1 hg).1
     rw[vE] at h
     exact zP3 ((hx.us _ g hg).mono (by omega)) (F.wf.var (by omega) (by omega)) h
    ·cases h
   ·cases h
theorem zO3 {s:Scp}{x:FQry}(hq:s.q=x.q)(hs:x.small)(hx:x.ok){l:List (Row × Rat)}(hr:Rs l)(ha:AV s l){c:Rat}(hc:0≤c):s.proves (fA ((s.sum (mR l)).2.add (F.num c))) (mR l)=true:=by
 obtain⟨g,h1,h2,h3,h4⟩:=zGH hr ha
 have hn:=hs.g.n2
 have hu:=hs.g.us
 have hw:g.wf ((x.g.n+x.g.us.length:Nat):Int):=by
  obtain⟨f,k1,_⟩:=zBW (acc:=F.zero) ha
  have hw:=zG8 (zM5 hq hs hx) (F.wf.zero0 _) k1
  have:s.sum (mR l)=(0,f):=by
   unfold Scp.sum
   rw[iP hr (fun w e=>by cases e),k1]
   rfl
  rw[this] at h1
  cases h1
  exact hw
 rw[h1]
 refine zIT hq hx hr ha (hw.add (F.wf.num c _)) (by omega) (fun w=>?_) ?_
 ·rw[zMK,zR4,h2];grind
 ·have e:(g.add (F.num c)).c=g.c+c * 1:=rfl
  rw[e,h3];grind
theorem zMT {s:Scp}{l:List (Row × Rat)}(hr:Rs l)(ha:AV s l):(s.sum (mR l)).1=0∧s.refutes (mR l)=(decide ((s.sum (mR l)).2.ts.length=0) && decide (yB (s.sum (mR l)).2.c<0)):=by
 obtain⟨g,h1,_⟩:=zGH hr ha
 refine⟨by rw[h1],?_⟩
 unfold Scp.refutes
 rw[h1]
 simp
end Go.Proofs.YtgcpehdkdnkgeaaGreat
