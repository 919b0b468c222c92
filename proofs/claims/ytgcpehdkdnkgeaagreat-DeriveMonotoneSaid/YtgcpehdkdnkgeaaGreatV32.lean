/- A part of the proof: SpC, SpD, SpE, SpF, SpG, SpH, SpI, SpJ. -/
import Derived.Test.YtgcpehdkdnkgeaaGreatV31
import Derived.Test.YtgcpehdkdnkgeaaGreatV30
set_option linter.all false
namespace Go.Proofs.YtgcpehdkdnkgeaaGreat
open Go
structure F.wf (f:F) (n:Int):Prop where
 cn:Cn f.ts
 v:∀ t,t∈f.ts→0≤t.1∧t.1<n
theorem F.wf.merge {f g:F}{c:Rat}{n:Int}(hf:f.wf n)(hg:g.wf n):(f.merge g c).wf n:=⟨hf.cn.mrg hg.cn,fun t ht=>by
 rcases kU ht with ⟨u,hu,e⟩ | ⟨u,hu,e⟩
 ·rw[←e];exact hf.v u hu
 ·rw[←e];exact hg.v u hu⟩
theorem F.wf.num (q:Rat)(n:Int):(F.num q).wf n:=⟨Cn.nil,fun t ht=>absurd ht (by simp [F.num])⟩
theorem F.wf.var {v n:Int}(h1:0≤v)(h2:v<n):(F.var v).wf n:=⟨Cn.nil.cons (by simp) (by show (1:Rat)≠0;decide),fun t ht=>by
 have:t=(v,1):=by simpa [F.var] using ht
 rw[this];exact⟨h1,h2⟩⟩
theorem F.wf.zero0 (n:Int):(⟨[],0⟩:F).wf n:=⟨Cn.nil,fun t ht=>absurd ht (by simp)⟩
theorem F.wf.scale {f:F}{c:Rat}{n:Int}(hf:f.wf n):(f.scale c).wf n:=F.wf.merge (F.wf.zero0 n) hf
theorem F.wf.add {f g:F}{n:Int}(hf:f.wf n)(hg:g.wf n):(f.add g).wf n:=hf.merge hg
theorem F.wf.mono {f:F}{n m:Int}(hf:f.wf n)(h:n≤m):f.wf m:=⟨hf.cn,fun t ht=>⟨(hf.v t ht).1,by have:=(hf.v t ht).2;omega⟩⟩
theorem zB0 (raw:List UInt8)(N:Nat):∀ (n v:Nat) (f:F) (a:Nat),v+n≤N→f.wf N→(pF raw n v f a).1.wf N
 | 0,_,_,_,_,h=>h
 | n+1,v,f,a,hv,h=>by
  unfold pF
  split
  ·exact zB0 raw N n _ _ _ (by omega) (h.add (F.wf.var (by omega) (by omega)).scale)
  ·exact zB0 raw N n _ _ _ (by omega) h
theorem zLQ (raw:List UInt8)(n a:Nat):(fdF raw n a).1.wf n:=zB0 raw n n 0 _ _ (by omega) (F.wf.num _ _)
theorem zC0 {raw:List UInt8}{d:Nat}:∀ {n v a:Nat} {i:Nat} {f:F},(fdL raw d n v a).1[i]?=some f→f.wf ((v+i * d:Nat):Int)
 | 0,_,_,i,f,h=>by simp [fdL] at h
 | n+1,v,a,0,f,h=>by
  simp only[fdL,List.getElem?_cons_zero,Option.some.injEq] at h
  rw[←h,Nat.zero_mul,Nat.add_zero]
  exact zLQ raw v a
 | n+1,v,a,i+1,f,h=>by
  simp only[fdL,List.getElem?_cons_succ] at h
  have:=zC0 h
  have e:(i+1) * d=i * d+d:=Nat.succ_mul i d
  rw[show v+(i+1) * d=v+d+i * d by omega]
  exact this
def wK (L:List Lem) (k:Nat):Rat:=((L[k - 1]?).map fun m=>m.v.q).getD 0
def gJ (L:List Lem) (unit:Int):Nat→List Lem→Nat × Nat→Nat × Nat
 | _,[],b=>b
 | n,m::r,b=>gJ L unit (n+1) r (if m.u=unit then (if m.up=true then (if b.2=0∨kL m.v.q (wK L b.2)<0 then (b.1,n+1) else b) else (if b.1=0∨0<kL m.v.q (wK L b.1) then (n+1,b.2) else b)) else b)
def Scp.best (s:Scp) (unit:Int):Nat × Nat:=gJ s.lems unit 0 s.lems (0,0)
theorem oZ {L:List Lem}{unit:Int}:∀ {r:List Lem} {n:Nat} {b:Nat × Nat},r=L.drop n→(∀ k,k=b.1∨k=b.2→k≠0→∃ m,L[k - 1]?=some m∧m.u=unit) →
  ∀ k,k=(gJ L unit n r b).1∨k=(gJ L unit n r b).2→k≠0→∃ m,L[k - 1]?=some m∧m.u=unit
 | [],n,b,_,hb=>hb
 | m::r,n,b,hr,hb=>by
  have hm:L[n]?=some m:=by
   have:(L.drop n)[0]?=some m:=by rw[←hr];rfl
   simpa using this
  have hr':r=L.drop (n+1):=by
   have:(L.drop n).drop 1=L.drop (n+1):=by rw[List.drop_drop]
   rw[←this,←hr];rfl
  unfold gJ
  refine oZ hr' fun k hk hk0=>?_
  split at hk
  ·rename_i hu
   have new:∃ m,L[n+1 - 1]?=some m∧m.u=unit:=⟨m,hm,hu⟩
   split at hk
   ·split at hk
    ·rcases hk with rfl | rfl
     ·exact hb _ (.inl rfl) hk0
     ·exact new
    ·exact hb k hk hk0
   ·split at hk
    ·rcases hk with rfl | rfl
     ·exact new
     ·exact hb _ (.inr rfl) hk0
    ·exact hb k hk hk0
  ·exact hb k hk hk0
theorem bB {s:Scp}{unit:Int}{k:Nat}(hk:k=(s.best unit).1∨k=(s.best unit).2)(h0:k≠0):∃ m,s.lems[k - 1]?=some m∧m.u=unit :=
 oZ (by simp) (fun k hk hk0=>by rcases hk with rfl | rfl <;> exact absurd rfl hk0) k hk h0
def x9 (a b:List (Row × Rat)) (c:Rat):List (Row × Rat):=b.foldl (fun a m=>plMq a m.1 (m.2 * c)) a
def Scp.atLeastM (s:Scp) (v:Int):List (Row × Rat):=if v<s.q.g.n then [(⟨1,v,0,0⟩,1)] else [(⟨5,v - s.q.g.n,0,0⟩,1)]
def upM (j:Int) (lo hi:Nat) (l u:Rat):List (Row × Rat) :=
 if yB u≤0 then [(⟨10,j,0,hi⟩,1)]
 else if 0≤yB l then [(⟨8,j,lo,0⟩,1),(⟨12,j,0,hi⟩,1)]
 else [(⟨12,j,0,hi⟩,(1 / (u - l)) * u),(⟨13,j,lo,hi⟩,1 / (u - l))]
def Scp.atMostM (s:Scp) (v:Int):Option (List (Row × Rat)) :=
 if v<s.q.g.n then some [(⟨2,v,0,0⟩,1)]
 else if (s.best (v - s.q.g.n)).1=0∨(s.best (v - s.q.g.n)).2=0 then none
 else some (upM (v - s.q.g.n) (s.best (v - s.q.g.n)).1 (s.best (v - s.q.g.n)).2 (wK s.lems (s.best (v - s.q.g.n)).1) (wK s.lems (s.best (v - s.q.g.n)).2))
def Scp.aboveL (s:Scp):List (Int × Rat)→List (Row × Rat)→Option (List (Row × Rat))
 | [],l=>some l
 | t::r,l=>match (if 0<yB t.2 then some (s.atLeastM t.1) else s.atMostM t.1) with
  | none=>none
  | some more=>s.aboveL r (x9 l more (gE t.2))
def Scp.above (s:Scp) (f:F):Option (Rat × List (Row × Rat)):=(s.aboveL f.ts []).map fun l=>((f.sub (s.sum (mR l)).2).c,l)
def bndL (j:Int) (x y:Option (Rat × List (Row × Rat))):List Lem :=
 (match x with
 | some v=>[⟨j,false,zJ v.1,mR v.2⟩]
 | none=>[])++(match y with
 | some w=>[⟨j,true,zJ (-w.1),mR w.2⟩]
 | none=>[])
def bndG (q:Qry) (path:List Dec):List A→Nat→List Lem→List Lem
 | [],_,L=>L
 | p::r,j,L=>bndG q path r (j+1) (L++bndL j ((⟨q,path,L⟩:Scp).above p.f) ((⟨q,path,L⟩:Scp).above (p.f.scale (-1))))
def Scp.bounded (s:Scp):Scp:=⟨s.q,s.path,bndG s.q s.path s.q.g.us 0 s.lems⟩
inductive Wt (s:Scp):List (Row × Rat)→Nat→Prop
 | nil:Wt s [] 0
 | cons {r q l k g N} (hk:Fits k q) (hg:∀ f,s.fm r=some f→f.fl g 3000) (h:Wt s l N):Wt s ((r,q)::l) (k+g+5+N)
theorem Wt.to {s l N M}(h:Wt s l N)(e:N=M):Wt s l M:=e ▸ h
theorem Wt.mem {s:Scp}:∀ {l:List (Row × Rat)} {N:Nat},Wt s l N→∀ t,t∈l→Fits N t.2
 | _,_,.nil,t,ht=>absurd ht (by simp)
 | _,_,.cons hk hg h,t,ht=>by
  rcases List.mem_cons.1 ht with rfl | ht
  ·exact hk.mono (by omega)
  ·exact (h.mem t ht).mono (by omega)
theorem Wt.plM {s:Scp}{r:Row}{q:Rat}{k g:Nat}(hk:Fits k q)(hg:∀ f,s.fm r=some f→f.fl g 3000):∀ {l:List (Row × Rat)} {N:Nat},Wt s l N→∃ M,M≤k+g+5+N∧Wt s (plM r q l) M
 | _,_,.nil=>⟨_,Nat.le_refl _,.cons hk hg .nil⟩
 | _,_,.cons (r:=r') (q:=q') (l:=l) (k:=k') (g:=g') (N:=N') hk' hg' h=>by
  unfold Go.Proofs.YtgcpehdkdnkgeaaGreat.plM
  split
  ·obtain⟨M,h1,h2⟩:=Wt.plM hk hg h
   exact⟨_,by omega,.cons hk' hg' h2⟩
  ·split
   ·rename_i e
    have e':r'=r:=e
    rw[e'] at hg'
    refine⟨_,?_,.cons (k:=k'+k+1) ((vI hk' hk).mono (by omega)) hg' h⟩
    omega
   ·exact⟨_,by omega,.cons hk hg (.cons hk' hg' h)⟩
theorem Wt.plMq {s:Scp}{r:Row}{q:Rat}{k g:Nat}(hk:Fits k q)(hg:∀ f,s.fm r=some f→f.fl g 3000){l:List (Row × Rat)}{N:Nat}(h:Wt s l N):∃ M,M≤k+g+5+N∧Wt s (plMq l r q) M:=by
 unfold Go.Proofs.YtgcpehdkdnkgeaaGreat.plMq
 split
 ·exact⟨N,by omega,h⟩
 ·exact Wt.plM hk hg h
theorem Wt.merge {s:Scp}{c:Rat}{kc:Nat}(hc:Fits kc c):∀ {b:List (Row × Rat)} {B:Nat} {a:List (Row × Rat)} {N:Nat},Wt s b B→Wt s a N→∃ M,M≤B+(kc+2) * b.length+N∧Wt s (x9 a b c) M
 | _,_,a,N,.nil,ha=>⟨N,by simp,ha⟩
 | _,_,a,N,.cons (r:=r) (q:=q) (l:=l) (k:=k) (g:=g) (N:=B) hk hg h,ha=>by
  obtain⟨M1,h1,h2⟩:=Wt.plMq (q:=q * c) (wB hk hc) hg ha
  obtain⟨M,g1,g2⟩:=Wt.merge hc h h2
  refine⟨M,?_,g2⟩
  rw[List.length_cons,Nat.mul_succ]
  omega
theorem zDS (r:Row)(q:Rat)(l):(plMq l r q).length≤l.length+1:=by
 unfold plMq
 split
 ·omega
 ·exact lT r q l
theorem zAP (c:Rat):∀ (b a:List (Row × Rat)),(x9 a b c).length≤a.length+b.length
 | [],a=>Nat.le_refl _
 | t::b,a=>by
  have h1:=zAP c b (plMq a t.1 (t.2 * c))
  have h2:=zDS t.1 (t.2 * c) a
  have e:x9 a (t::b) c=x9 (plMq a t.1 (t.2 * c)) b c:=rfl
  rw[e,List.length_cons]
  omega
theorem Wt.sumL {s:Scp}:∀ {l:List (Row × Rat)} {N:Nat},Wt s l N→∀ {acc f:F} {a n:Nat},acc.fl a n→sumL s acc (mR l)=some f→f.fl (a+N) (n+3000 * l.length)
 | _,_,.nil,acc,f,a,n,ha,h=>by cases h;exact ha
 | _,_,.cons (r:=r) (q:=q) (l:=l) (k:=k) (g:=g) (N:=B) hk hg hw,acc,f,a,n,ha,h=>by
  have e:mR ((r,q)::l)=⟨r,zJ q⟩::mR l:=rfl
  rw[e] at h
  unfold Go.Proofs.YtgcpehdkdnkgeaaGreat.sumL at h
  dsimp only at h
  split at h
  ·cases h
  ·rename_i f0 hf0
   rw[z9] at h
   have:=hw.sumL (ha.add ((hg f0 hf0).scale hk)) h
   exact this.mono (by omega) (by rw[List.length_cons,Nat.mul_succ];omega)
theorem Wt.sum {s:Scp}{l:List (Row × Rat)}{N:Nat}(h:Wt s l N):(s.sum (mR l)).2.fl (1+N) (3000 * l.length):=by
 unfold Scp.sum
 split
 ·exact zero_fl.mono (by omega) (by omega)
 ·split
  ·exact zero_fl.mono (by omega) (by omega)
  ·rename_i f hf
   exact (h.sumL zero_fl hf).mono (by omega) (by omega)
def LB (K:Nat→Nat) (L:List Lem):Prop:=∀ m,m∈L→∃ i:Nat,m.u=i∧Fits (K i) m.v.q
theorem zLI {K:Nat→Nat}{s:Scp}(hK:∀ i,1≤K i)(h:LB K s.lems)(k:Int)(i:Nat)(up:Bool):Fits (K i) ((s.lem k i up).getD 0):=by
 unfold Scp.lem
 split
 ·split
  ·rename_i m hm
   split
   ·rename_i e
    obtain⟨i',e',hf⟩:=h m (List.mem_of_getElem? hm)
    have:i'=i:=by have:=e.1;omega
    rw[this] at hf
    exact hf
   ·exact w8 (hK i)
  ·exact w8 (hK i)
 ·exact w8 (hK i)
theorem zKR {K:Nat→Nat}{s:Scp}(h:LB K s.lems){i k:Nat}(hk:k=(s.best i).1∨k=(s.best i).2)(h0:k≠0):Fits (K i) (wK s.lems k):=by
 obtain⟨m,hm,hu⟩:=bB hk h0
 obtain⟨i',e',hf⟩:=h m (List.mem_of_getElem? hm)
 have:i'=i:=by omega
 rw[this] at hf
 unfold wK
 rw[hm]
 exact hf
theorem zPA {s:Scp}{x:FQry}(hq:s.q=x.q)(hx:x.small){r:Row}(hr:r.k=1∨r.k=2){f:F}(h:s.fm r=some f):f.fl 6 3000:=by
 unfold Scp.fm at h
 split at h
 ·cases h
 rw[if_pos (by omega)] at h
 unfold Scp.fIn at h
 split at h
 ·split at h
  ·cases hy:s.q.r.lo[r.i.toNat]? with
   | none=>rw[hy] at h;cases h
   | some y =>
    rw[hy] at h
    cases h
    have hm:=List.mem_of_getElem? hy
    rw[hq] at hm
    obtain⟨b,hb,rfl⟩:=List.mem_map.1 hm
    dsimp only
    rw[z9]
    exact ((w7 r.i).sub (wH (hx.r.bf b hb).1)).mono (by omega) (by omega)
  ·split at h
   ·cases hy:s.q.r.hi[r.i.toNat]? with
    | none=>rw[hy] at h;cases h
    | some y =>
     rw[hy] at h
     cases h
     have hm:=List.mem_of_getElem? hy
     rw[hq] at hm
     obtain⟨b,hb,rfl⟩:=List.mem_map.1 hm
     dsimp only
     rw[z9]
     exact ((wH (hx.r.bf b hb).2).sub (w7 r.i)).mono (by omega) (by omega)
   ·omega
 ·cases h
theorem zMO {s:Scp}{r:Row}{p v:F}{l u:Option Rat}{K:Nat}{f:F}(hk:1≤K)(hp:p.fl 43 7)(hv:v.fl 1 1)(hl:Fits K (l.getD 0))(hu:Fits K (u.getD 0))(h:unF s r p v l u=some f):f.fl (4 * K+60) 3000:=by
 unfold unF at h
 generalize l.getD 0=lq at *
 generalize u.getD 0=uq at *
 have two:∀ {c:Prop} [Decidable c] {x:F},(if c then some x else none)=some f→x=f:=fun h=>by
  split at h
  ·exact Option.some.inj h
  ·cases h
 split at h
 ·rw[←two h];exact hv.mono (by omega) (by omega)
 split at h
 ·rw[←two h];exact (hv.sub hp).mono (by omega) (by omega)
 split at h
 ·rw[←two h];exact (hp.add zero_fl).mono (by omega) (by omega)
 split at h
 ·rw[←two h];exact (hp.sub hv).mono (by omega) (by omega)
 split at h
 ·rw[←two h];exact (hp.scale xM).mono (by omega) (by omega)
 split at h
 ·rw[←two h];exact (hv.scale xM).mono (by omega) (by omega)
 split at h
 ·rw[←two h];exact (hp.sub (wH hl)).mono (by omega) (by omega)
 split at h
 ·rw[←two h];exact ((wH hu).sub hp).mono (by omega) (by omega)
 split at h
 ·rw[←two h];exact (((hp.sub (wH hl)).scale hu).sub (hv.scale (j6 hu hl))).mono (by omega) (by omega)
 ·cases h
theorem zI1 {s:Scp}{x:FQry}{K:Nat→Nat}(hq:s.q=x.q)(hx:x.small)(hK:∀ i,1≤K i)(hL:LB K s.lems){r:Row}{i:Nat}(hr:5≤r.k)(hi:r.i=i){f:F}(h:s.fm r=some f):f.fl (4 * K i+60) 3000:=by
 unfold Scp.fm at h
 split at h
 ·cases h
 rw[if_neg (by omega)] at h
 unfold Scp.fUn at h
 split at h
 ·cases hy:s.q.g.us[r.i.toNat]? with
  | none=>rw[hy] at h;cases h
  | some p =>
   rw[hy] at h
   have hm:=List.mem_of_getElem? hy
   rw[hq] at hm
   obtain⟨b,hb,rfl⟩:=List.mem_map.1 hm
   rw[hi] at h
   dsimp only at h
   rw[uK] at h
   exact zMO (hK i) (hx.g.uf b hb) (w7 _) (zLI hK hL _ _ _) (zLI hK hL _ _ _) h
 ·cases h
def cst (K:Nat→Nat) (n v:Nat):Nat:=if v<n then 60 else 13 * K (v - n)+230
theorem eH {s:Scp}{r:Row}{g:Nat}(hg:∀ f,s.fm r=some f→f.fl g 3000):Wt s [(r,1)] (g+6):=(Wt.cons fits_one hg .nil).to (by omega)
theorem zJ2 {s:Scp}{x:FQry}{K:Nat→Nat}(hq:s.q=x.q)(hx:x.small)(hK:∀ i,1≤K i)(hL:LB K s.lems)(v:Nat):∃ B,B+48 * (s.atLeastM v).length≤cst K x.g.n v∧Wt s (s.atLeastM v) B:=by
 have hn:s.q.g.n=(x.g.n:Int):=by rw[hq];rfl
 unfold Scp.atLeastM cst
 rw[hn]
 by_cases h:v<x.g.n
 ·rw[if_pos (by omega),if_pos h]
  exact⟨_,by simp,eH fun f hf=>zPA hq hx (.inl rfl) hf⟩
 ·rw[if_neg (by omega),if_neg h]
  exact⟨_,by simp;omega,eH fun f hf=>zI1 (i:=v - x.g.n) hq hx hK hL (by show (5:Int)≤5;decide) (by show (v:Int) - x.g.n=_;omega) hf⟩
theorem zRY {s:Scp}{x:FQry}{K:Nat→Nat}(hq:s.q=x.q)(hx:x.small)(hK:∀ i,1≤K i)(hL:LB K s.lems){i lo hi:Nat}{l u:Rat}(hl:Fits (K i) l)(hu:Fits (K i) u) :
  ∃ B,B+48 * (upM i lo hi l u).length≤13 * K i+230∧Wt s (upM i lo hi l u) B:=by
 have hg:∀ (k lo hi:Int),5≤k→∀ f,s.fm ⟨k,i,lo,hi⟩=some f→f.fl (4 * K i+60) 3000:=fun k lo hi hk f hf=>zI1 hq hx hK hL hk rfl hf
 have h1:=hK i
 have hs:=zD8 (j6 hu hl)
 have hd:Fits (2 * K i+1) (1 / (u - l)):=by
  have e:1 / (u - l)=(u - l)⁻¹:=by rw[Rat.div_def,Rat.one_mul]
  rw[e]
  exact hs.mono (by omega)
 unfold upM
 split
 ·exact⟨_,by simp;omega,eH (hg _ _ _ (by decide))⟩
 ·split
  ·exact⟨_,by simp;omega,Wt.cons fits_one (hg _ _ _ (by decide)) (eH (hg _ _ _ (by decide)))⟩
  ·exact⟨_,by simp;omega,Wt.cons ((wB hd hu).mono (k:=_) (m:=3 * K i+2) (by omega)) (hg _ _ _ (by decide)) (Wt.cons hd (hg _ _ _ (by decide)) .nil)⟩
theorem zG1 {s:Scp}{x:FQry}{K:Nat→Nat}(hq:s.q=x.q)(hx:x.small)(hK:∀ i,1≤K i)(hL:LB K s.lems)(v:Nat){more:List (Row × Rat)}(h:s.atMostM v=some more):∃ B,B+48 * more.length≤cst K x.g.n v∧Wt s more B:=by
 have hn:s.q.g.n=(x.g.n:Int):=by rw[hq];rfl
 unfold Scp.atMostM at h
 unfold cst
 rw[hn] at h
 by_cases hv:v<x.g.n
 ·rw[if_pos (by omega)] at h
  rw[if_pos hv]
  cases h
  exact⟨_,by simp,eH fun f hf=>zPA hq hx (.inr rfl) hf⟩
 ·rw[if_neg (by omega)] at h
  rw[if_neg hv]
  have e:(v:Int) - x.g.n=((v - x.g.n:Nat):Int):=by omega
  rw[e] at h
  split at h
  ·cases h
  ·rename_i hb
   cases h
   exact zRY hq hx hK hL (zKR hL (.inl rfl) (fun g=>hb (.inl g))) (zKR hL (.inr rfl) (fun g=>hb (.inr g)))
def rK (K:Nat→Nat) (n:Nat):Nat→Nat
 | 0=>0
 | v+1=>rK K n v+cst K n v
theorem nB {K : Nat → Nat} {n a b : Nat} (h : a ≤ b) : rK K n a ≤ rK K n b := by
  induction b with
  | zero => have : a = 0 := by omega
            rw [this]; exact Nat.le_refl _
  | succ b ih =>
    by_cases e : a = b + 1
    · rw [e]; exact Nat.le_refl _
    · have := ih (by omega)
      show _ ≤ rK K n b + cst K n b
      omega
theorem nI {s:Scp}{x:FQry}{K:Nat→Nat}(hq:s.q=x.q)(hx:x.small)(hK:∀ i,1≤K i)(hL:LB K s.lems){hi:Nat}:∀ {ts:List (Int × Rat)} {l l':List (Row × Rat)} {N lo:Nat},
  Cn ts→(∀ t,t∈ts→(lo:Int)≤t.1∧t.1<hi)→(∀ t,t∈ts→Fits 46 t.2)→lo≤hi→Wt s l N→s.aboveL ts l=some l'→∃ M,M+rK K x.g.n lo≤N+rK K x.g.n hi∧Wt s l' M
 | [],l,l',N,lo,_,_,_,hlh,hw,h=>by
  cases h
  exact⟨N,by have:=nB (K:=K) (n:=x.g.n) hlh;omega,hw⟩
 | t::r,l,l',N,lo,hc,hv,hf,hlh,hw,h=>by
  obtain⟨h1,h2⟩:=hv t List.mem_cons_self
  obtain⟨v,hv1⟩:∃ v:Nat,t.1=v:=⟨t.1.toNat,by omega⟩
  unfold Scp.aboveL at h
  have hm:∀ {more:List (Row × Rat)},(if 0<yB t.2 then some (s.atLeastM t.1) else s.atMostM t.1)=some more→∃ B,B+48 * more.length≤cst K x.g.n v∧Wt s more B:=fun {more} g=>by
   rw[hv1] at g
   split at g
   ·cases g;exact zJ2 hq hx hK hL v
   ·exact zG1 hq hx hK hL v g
  split at h
  ·cases h
  ·rename_i more hmore
   obtain⟨B,b1,b2⟩:=hm hmore
   obtain⟨M1,m1,m2⟩:=Wt.merge (rF (hf t List.mem_cons_self)) b2 hw
   have hlo:∀ u,u∈r→((v+1:Nat):Int)≤u.1∧u.1<hi:=fun u hu=>by
    have g1:=hc.lt u hu
    have g2:=(hv u (List.mem_cons_of_mem _ hu)).2
    omega
   obtain⟨M,k1,k2⟩:=nI hq hx hK hL (hi:=hi) (lo:=v+1) hc.tail hlo (fun u hu=>hf u (List.mem_cons_of_mem _ hu)) (by omega) m2 h
   refine⟨M,?_,k2⟩
   have c1:=nB (K:=K) (n:=x.g.n) (a:=lo) (b:=v) (by omega)
   have c2:rK K x.g.n (v+1)=rK K x.g.n v+cst K x.g.n v:=rfl
   have c3:(46+2) * more.length=48 * more.length:=rfl
   omega
theorem zMN (j:Int)(lo hi:Nat)(l u:Rat):(upM j lo hi l u).length≤2:=by unfold upM;split <;> (try split) <;> simp
theorem zDV {s:Scp}{v:Int}{more}(h:s.atMostM v=some more):more.length≤2:=by
 unfold Scp.atMostM at h
 split at h
 ·cases h;simp
 ·split at h
  ·cases h
  ·cases h;exact zMN _ _ _ _ _
theorem zIB (s:Scp)(v:Int):(s.atLeastM v).length≤2:=by unfold Scp.atLeastM;split <;> simp
theorem pO {s:Scp}:∀ {ts:List (Int × Rat)} {l l':List (Row × Rat)},s.aboveL ts l=some l'→l'.length≤l.length+2 * ts.length
 | [],l,l',h=>by cases h;simp
 | t::r,l,l',h=>by
  unfold Scp.aboveL at h
  split at h
  ·cases h
  ·rename_i more hmore
   have h1:more.length≤2:=by
    split at hmore
    ·cases hmore;exact zIB _ _
    ·exact zDV hmore
   have h2:=zAP (gE t.2) more l
   have h3:=pO h
   rw[List.length_cons]
   omega
theorem zKQ {s:Scp}{x:FQry}{K:Nat→Nat}(hq:s.q=x.q)(hx:x.small)(hK:∀ i,1≤K i)(hL:LB K s.lems){f:F}{hi:Nat}(hf:f.fl 46 7)(hw:f.wf hi){v:Rat × List (Row × Rat)}(h:s.above f=some v) :
  Fits (49+rK K x.g.n hi) v.1∧(∀ t,t∈v.2→Fits (rK K x.g.n hi) t.2)∧v.2.length≤14:=by
 unfold Scp.above at h
 cases hl:s.aboveL f.ts [] with
 | none=>rw[hl] at h;cases h
 | some l =>
  rw[hl] at h
  cases h
  obtain⟨M,h1,h2⟩:=nI hq hx hK hL (hi:=hi) (lo:=0) hw.cn (fun t ht=>by have:=hw.v t ht;omega) hf.t (Nat.zero_le _) .nil hl
  have h3:rK K x.g.n 0=0:=rfl
  have h4:=pO hl
  have h5:=hf.len
  refine⟨((hf.sub h2.sum).c).mono (by omega),fun t ht=>(h2.mem t ht).mono (by omega),?_⟩
  show l.length≤14
  simp only[List.length_nil] at h4
  omega
def KK:Nat→Nat
 | 0=>230
 | 1=>3450
 | 2=>48530
 | _=>679650
theorem o5 (i:Nat):1≤KK i:=by unfold KK;split <;> decide
theorem zPG {n j:Nat}(h1:1≤n)(h2:n≤3)(h3:j≤3):49+rK KK n (n+j)≤KK j:=by
 have:∀ n:Fin 4,∀ j:Fin 4,1≤n.val→49+rK KK n.val (n.val+j.val)≤KK j.val:=by decide +kernel
 exact this ⟨n,by omega⟩ ⟨j,by omega⟩ h1
theorem zFT (i:Nat):KK i≤679650:=by unfold KK;split <;> decide
structure Lok (L:List Lem) (j:Nat):Prop where
 lb:LB KK L
 len:L.length≤2 * j
 pf:∀ m,m∈L→Msz 679650 m.pf∧m.pf.length≤14
 v:∀ m,m∈L→∃ q,m.v=zJ q
theorem zQX {l:List (Row × Rat)}{k:Nat}(h:∀ t,t∈l→Fits k t.2)(hl:l.length≤14):Msz k (mR l):=⟨by rw[x6];omega,fun m hm=>by
 obtain⟨t,ht,rfl⟩:=List.mem_map.1 hm
 exact z8 (h t ht)⟩
theorem zEJ {x:FQry}(hx:x.small)(hwf:∀ (i:Nat) (f:F),x.g.us[i]?=some f→f.wf ((x.g.n+i:Nat):Int)){path:List Dec}{j:Nat}{f:F}(hfj:x.g.us[j]?=some f){L:List Lem}(h:Lok L j) :
  Lok (L++bndL j ((⟨x.q,path,L⟩:Scp).above f) ((⟨x.q,path,L⟩:Scp).above (f.scale (-1)))) (j+1)∧(∀ v,(⟨x.q,path,L⟩:Scp).above (f.scale (-1))=some v→Fits (2^20) v.1):=by
 obtain⟨hlen,he⟩:=List.getElem?_eq_some_iff.1 hfj
 have hj:j≤3:=by have:=hx.g.us;omega
 have hf:=hx.g.uf _ (List.mem_of_getElem? hfj)
 have hw:=hwf j f hfj
 have ok:=zPG hx.g.n1 hx.g.n2 hj
 have kl:=zFT j
 have key:∀ {f:F} {v:Rat × List (Row × Rat)},f.fl 46 7→f.wf ((x.g.n+j:Nat):Int)→(⟨x.q,path,L⟩:Scp).above f=some v→Fits (KK j) v.1∧Msz 679650 (mR v.2)∧(mR v.2).length≤14:=fun hf hw hv=>by
  obtain⟨g1,g2,g3⟩:=zKQ (s:=⟨x.q,path,L⟩) rfl hx o5 h.lb hf hw hv
  exact⟨g1.mono ok,zQX (fun t ht=>(g2 t ht).mono (by omega)) g3,by rw[x6];exact g3⟩
 have kx:=fun v hv=>key (v:=v) (hf.mono (by decide) (by decide)) hw hv
 have ky:=fun v hv=>key (v:=v) ((hf.scale xM).mono (by decide) (by decide)) hw.scale hv
 refine⟨?_,fun v hv=>(ky v hv).1.mono (Nat.le_trans kl (by decide))⟩
 generalize (⟨x.q,path,L⟩:Scp).above f=X at *
 generalize (⟨x.q,path,L⟩:Scp).above (f.scale (-1))=Y at *
 have mem:∀ m,m∈bndL j X Y→m.u=(j:Int)∧Fits (KK j) m.v.q∧Msz 679650 m.pf∧m.pf.length≤14∧∃ q,m.v=zJ q:=fun m hm=>by
  unfold bndL at hm
  rcases List.mem_append.1 hm with hm | hm
  ·cases X with
   | none=>exact absurd hm (by simp)
   | some v =>
    have:m=⟨j,false,zJ v.1,mR v.2⟩:=by simpa using hm
    obtain⟨g1,g2,g3⟩:=kx v rfl
    rw[this]
    exact⟨rfl,by show Fits _ (zJ v.1).q;rw[z9];exact g1,g2,g3,_,rfl⟩
  ·cases Y with
   | none=>exact absurd hm (by simp)
   | some v =>
    have:m=⟨j,true,zJ (-v.1),mR v.2⟩:=by simpa using hm
    obtain⟨g1,g2,g3⟩:=ky v rfl
    rw[this]
    exact⟨rfl,by show Fits _ (zJ (-v.1)).q;rw[z9];exact aY g1,g2,g3,_,rfl⟩
 refine⟨fun m hm=>?_,?_,fun m hm=>?_,fun m hm=>?_⟩
 ·rcases List.mem_append.1 hm with hm | hm
  ·exact h.lb m hm
  ·exact⟨j,(mem m hm).1,(mem m hm).2.1⟩
 ·rw[List.length_append]
  have:(bndL j X Y).length≤2:=by unfold bndL;cases X <;> cases Y <;> simp
  have:=h.len
  omega
 ·rcases List.mem_append.1 hm with hm | hm
  ·exact h.pf m hm
  ·exact⟨(mem m hm).2.2.1,(mem m hm).2.2.2.1⟩
 ·rcases List.mem_append.1 hm with hm | hm
  ·exact h.v m hm
  ·exact (mem m hm).2.2.2.2
theorem zHQ {x:FQry}(hx:x.small)(hwf:∀ (i:Nat) (f:F),x.g.us[i]?=some f→f.wf ((x.g.n+i:Nat):Int)){path:List Dec}:∀ {us:List A} {j:Nat} {L:List Lem},us=(x.g.us.drop j).map fA→Lok L j→Lok (bndG x.q path us j L) (j+us.length)
 | [],j,L,_,h=>h
 | p::r,j,L,hu,h=>by
  have hlen:j<x.g.us.length:=by
   have:(x.g.us.drop j).length≠0:=by
    have:((x.g.us.drop j).map fA).length≠0:=by rw[←hu];simp
    simpa using this
   rw[List.length_drop] at this
   omega
  have hd:x.g.us.drop j=x.g.us[j]::x.g.us.drop (j+1):=(List.drop_eq_getElem_cons hlen)
  rw[hd] at hu
  simp only[List.map_cons,List.cons.injEq] at hu
  obtain⟨hp,hr⟩:=hu
  have e1:p.f=x.g.us[j]:=by rw[hp,uK]
  have hs:=(zEJ hx hwf (path:=path) (j:=j) (f:=x.g.us[j]) (by simp [hlen]) h).1
  unfold bndG
  rw[e1]
  have:=zHQ hx hwf (path:=path) (us:=r) (j:=j+1) hr hs
  rw[List.length_cons,show j+(r.length+1)=j+1+r.length by omega]
  exact this
theorem zGC (raw:List UInt8)(a:Nat)(i:Nat)(f:F)(h:(fdG raw a).1.us[i]?=some f):f.wf (((fdG raw a).1.n+i:Nat):Int):=by
 have:=zC0 (raw:=raw) (d:=1) h
 rw[Nat.mul_one] at this
 exact this
theorem jO (raw:List UInt8):Lok (fdS raw).bounded.lems 4:=by
 have h:=v5 raw 0
 have:=zHQ h (zGC raw 0) (path:=(fdS raw).path) (us:=(fdY raw 0).1.g.us.map fA) (j:=0) (L:=[]) (by simp) ⟨fun m hm=>absurd hm (by simp),by simp,fun m hm=>absurd hm (by simp),fun m hm=>absurd hm (by simp)⟩
 have hl:=h.g.us
 exact⟨this.lb,by
  have:=this.len
  rw[List.length_map] at this
  show (bndG _ _ _ _ _).length≤_
  exact Nat.le_trans this (by omega),this.pf,this.v⟩
theorem dC (raw:List UInt8):(fdS raw).bounded.sz (2^20):=by
 have h:=jO raw
 have g:=zGB raw
 refine⟨g.q.mono (by decide),⟨g.path.len,fun d hd=>(g.path.sz d hd).mono (by decide)⟩,⟨by have:=h.len;omega,fun m hm=>?_,fun m hm=>(h.pf m hm).1.mono (by decide)⟩⟩
 obtain⟨q,hq⟩:=h.v m hm
 obtain⟨i,_,hf⟩:=h.lb m hm
 rw[hq,z9] at hf
 rw[hq]
 exact z8 (hf.mono (Nat.le_trans (zFT i) (by decide)))
theorem zOX {N:Int}:∀ {ts:List (Int × Rat)} {p:Int},Cn ts→(∀ t,t∈ts→p<t.1∧0≤t.1∧t.1<N)→vT N p (tR ts)=true
 | [],_,_,_=>rfl
 | t::r,p,hc,h=>by
  obtain⟨h1,h2,h3⟩:=h t List.mem_cons_self
  have ih:=zOX (N:=N) (p:=t.1) hc.tail (fun u hu=>⟨hc.lt u hu,(h u (List.mem_cons_of_mem _ hu)).2⟩)
  show (decide (0≤t.1) && decide (t.1<N) && decide (p<t.1) && decide ((zJ t.2).q≠0) && (zJ t.2).ok && vT N t.1 (tR r))=true
  rw[ih,z9,sO,decide_eq_true h1,decide_eq_true h2,decide_eq_true h3,decide_eq_true hc.hd]
  rfl
theorem F.wf.valid {f:F}{n:Int}(h:f.wf n):(fA f).valid n=true:=by
 have h1:=zOX (N:=n) (p:=-1) h.cn (fun t ht=>⟨by have:=(h.v t ht).1;omega,(h.v t ht).1,(h.v t ht).2⟩)
 show (vT n (-1) (tR f.ts) && (zJ f.c).ok)=true
 rw[h1,sO]
 rfl
theorem zOV:∀ {l:List F} {k:Int},(∀ (i:Nat) (f:F),l[i]?=some f→f.wf (k+i))→vU k (l.map fA)=true
 | [],_,_=>rfl
 | f::r,k,h=>by
  have h0:=h 0 f rfl
  rw[show k+((0:Nat):Int)=k by omega] at h0
  have ih:=zOV (l:=r) (k:=k+1) (fun i g hg=>by
   have:=h (i+1) g (by simpa using hg)
   rw[show k+((i+1:Nat):Int)=k+1+i by omega] at this
   exact this)
  show ((fA f).valid k && vU (k+1) (r.map fA))=true
  rw[h0.valid,ih]
  rfl
theorem zL1 {l:List F}{n:Int}(h:∀ f,f∈l→f.wf n):(l.map fA).all (A.valid n)=true:=by
 rw[List.all_eq_true]
 intro a ha
 obtain⟨f,hf,rfl⟩:=List.mem_map.1 ha
 exact (h f hf).valid
theorem zOY:∀ {l:List (Rat × Rat)},(∀ b,b∈l→b.1≤b.2)→vB (l.map fun b=>zJ b.1) (l.map fun b=>zJ b.2)=true
 | [],_=>rfl
 | b::r,h=>by
  have ih:=zOY (l:=r) (fun c hc=>h c (List.mem_cons_of_mem _ hc))
  have hb:=h b List.mem_cons_self
  show ((zJ b.1).ok && (zJ b.2).ok && decide (kL (zJ b.1).q (zJ b.2).q≤0) && vB _ _)=true
  rw[ih,sO,sO,z9,z9,decide_eq_true (by unfold kL;split <;> (try split) <;> grind)]
  rfl
theorem zG2 {α:Type}{l:List α}{a:α}(h:a∈l):∃ i:Nat,l[i]?=some a:=List.mem_iff_getElem?.1 h
structure FQry.ok (x:FQry):Prop where
 us:∀ (i:Nat) (f:F),x.g.us[i]?=some f→f.wf ((x.g.n+i:Nat):Int)
 os:∀ f,f∈x.g.os→f.wf ((x.g.n+x.g.us.length:Nat):Int)
 rows:∀ f,f∈x.r.rows→f.wf (x.g.n:Int)
 goal:x.goal.wf ((x.g.n+x.g.us.length:Nat):Int)
theorem zGA (raw:List UInt8)(a:Nat):(fdY raw a).1.ok where
 us:=zGC raw a
 os:=fun f hf=>by
  obtain⟨i,hi⟩:=zG2 hf
  have:=zC0 (raw:=raw) (d:=0) hi
  rw[Nat.mul_zero,Nat.add_zero] at this
  have e:(fdY raw a).1.g.us.length=fdN raw 5 (na raw a):=jX raw 1 _ _ _
  rw[e]
  exact this
 rows:=fun f hf=>by
  obtain⟨i,hi⟩:=zG2 hf
  have:=zC0 (raw:=raw) (d:=0) hi
  rw[Nat.mul_zero,Nat.add_zero] at this
  exact this
 goal:=zLQ raw _ _
theorem FQry.small.valid {x:FQry}(h:x.small)(g:x.ok):x.q.valid=true:=by
 have h1:=h.g.n1
 have h2:=h.g.n2
 have h3:=h.g.us
 have h4:=h.g.o1
 have h5:=h.g.o2
 have h6:=h.r.bs
 have h7:=h.r.rows
 have hv:x.g.g.vars=((x.g.n+x.g.us.length:Nat):Int):=by
  show (x.g.n:Int)+((x.g.us.map fA).length:Int)=_
  rw[List.length_map];omega
 have hn:x.g.g.n=(x.g.n:Int):=rfl
 have hg:x.g.g.valid=true:=by
  unfold Grp.valid
  rw[hv]
  have a1:vU x.g.g.n x.g.g.us=true:=zOV (l:=x.g.us) (k:=(x.g.n:Int)) (fun i f hf=>by
   have:=g.us i f hf
   rw[show ((x.g.n+i:Nat):Int)=(x.g.n:Int)+i by omega] at this
   exact this)
  have a2:x.g.g.os.all (A.valid ((x.g.n+x.g.us.length:Nat):Int))=true:=zL1 g.os
  rw[a1,a2,decide_eq_true ⟨by rw[hn];omega,by rw[hn];omega,by show (x.g.us.map fA).length≤_;rw[List.length_map];omega,by show 1≤(x.g.os.map fA).length;rw[List.length_map];omega,by show (x.g.os.map fA).length≤_;rw[List.length_map];omega⟩]
  rfl
 have hr:x.r.g.valid (x.g.n:Int)=true:=by
  unfold Reg.valid
  have a1:vB x.r.g.lo x.r.g.hi=true:=zOY h.r.ord
  have a2:x.r.g.rows.all (A.valid (x.g.n:Int))=true:=zL1 g.rows
  rw[a1,a2,decide_eq_true ⟨by omega,by omega,by show ((x.r.bs.map _).length:Int)=_;rw[List.length_map];omega,by show ((x.r.bs.map _).length:Int)=_;rw[List.length_map];omega,by show (x.r.rows.map fA).length≤_;rw[List.length_map];omega⟩]
  rfl
 have hgo:(fA x.goal).valid x.g.g.vars=true:=by rw[hv];exact g.goal.valid
 show (x.g.g.valid && x.r.g.valid x.g.g.n && (fA x.goal).valid x.g.g.vars)=true
 rw[hg,hn,hr,hgo]
 rfl
def fmD (s:Scp) (r:Row):F:=(s.fm r).getD F.zero
def SC (s:Scp) (v:Int):List (Row × Rat)→Rat
 | []=>0
 | t::r=>t.2 * co (fmD s t.1).ts v+SC s v r
def SK (s:Scp):List (Row × Rat)→Rat
 | []=>0
 | t::r=>t.2 * (fmD s t.1).c+SK s r
def AV (s:Scp) (l:List (Row × Rat)):Prop:=∀ t,t∈l→∃ f,s.fm t.1=some f
theorem zL7 (s:Scp)(v:Int)(r:Row)(q:Rat):∀ l,SC s v (plM r q l)=q * co (fmD s r).ts v+SC s v l
 | []=>rfl
 | t::l=>by
  unfold plM
  split
  ·simp only[SC,zL7 s v r q l];grind
  ·split
   ·rename_i e
    simp only[SC,e];grind
   ·simp only[SC]
theorem zL5 (s:Scp)(r:Row)(q:Rat):∀ l,SK s (plM r q l)=q * (fmD s r).c+SK s l
 | []=>rfl
 | t::l=>by
  unfold plM
  split
  ·simp only[SK,zL5 s r q l];grind
  ·split
   ·rename_i e
    simp only[SK,e];grind
   ·simp only[SK]
theorem zO1 {q:Rat}(h:yB q=0):q=0:=mK.1 h
theorem zOT (s:Scp)(v:Int)(r:Row)(q:Rat)(l):SC s v (plMq l r q)=q * co (fmD s r).ts v+SC s v l:=by
 unfold plMq
 split
 ·rename_i h;rw[zO1 h];grind
 ·exact zL7 s v r q l
theorem zOS (s:Scp)(r:Row)(q:Rat)(l):SK s (plMq l r q)=q * (fmD s r).c+SK s l:=by
 unfold plMq
 split
 ·rename_i h;rw[zO1 h];grind
 ·exact zL5 s r q l
theorem zL8 {s:Scp}{r:Row}{q:Rat}(hr:∃ f,s.fm r=some f):∀ {l},AV s l→AV s (plM r q l)
 | [],_=>fun t ht=>by
  have:t=(r,q):=by simpa [plM] using ht
  rw[this];exact hr
 | u::l,h=>by
  have hl:AV s l:=fun t ht=>h t (List.mem_cons_of_mem _ ht)
  unfold plM
  split
  ·intro t ht
   rcases List.mem_cons.1 ht with rfl | ht
   ·exact h _ List.mem_cons_self
   ·exact zL8 hr hl t ht
  ·split
   ·intro t ht
    rcases List.mem_cons.1 ht with rfl | ht
    ·exact hr
    ·exact hl t ht
   ·intro t ht
    rcases List.mem_cons.1 ht with rfl | ht
    ·exact hr
    ·exact h t ht
theorem zHS {s:Scp}{r:Row}{q:Rat}(hr:∃ f,s.fm r=some f){l}(h:AV s l):AV s (plMq l r q):=by
 unfold plMq
 split
 ·exact h
 ·exact zL8 hr h
theorem zEQ (s:Scp)(v:Int)(c:Rat):∀ b a,SC s v (x9 a b c)=SC s v a+c * SC s v b
 | [],a=>by show SC s v a=_;simp only[SC];grind
 | t::b,a=>by
  show SC s v (x9 (plMq a t.1 (t.2 * c)) b c)=_
  rw[zEQ s v c b,zOT]
  simp only[SC]
  grind
theorem zEP (s:Scp)(c:Rat):∀ b a,SK s (x9 a b c)=SK s a+c * SK s b
 | [],a=>by show SK s a=_;simp only[SK];grind
 | t::b,a=>by
  show SK s (x9 (plMq a t.1 (t.2 * c)) b c)=_
  rw[zEP s c b,zOS]
  simp only[SK]
  grind
theorem zER {s:Scp}{c:Rat}:∀ {b a},AV s b→AV s a→AV s (x9 a b c)
 | [],a,_,h=>h
 | t::b,a,hb,h=>zER (b:=b) (fun u hu=>hb u (List.mem_cons_of_mem _ hu)) (zHS (hb t List.mem_cons_self) h)
theorem mE {c:Rat}(hc:0≤c):∀ {b a},(∀ t,t∈b→0≤t.2)→Rs a→Rs (x9 a b c)
 | [],a,_,h=>h
 | t::b,a,hb,h=>mE hc (b:=b) (fun u hu=>hb u (List.mem_cons_of_mem _ hu)) (zGY h (Rat.mul_nonneg (hb t List.mem_cons_self) hc))
theorem zEG (f:F)(c:Rat)(v:Int):co (f.scale c).ts v=co f.ts v * c:=by
 show co (mrg c [] f.ts) v=_
 rw[jN]
 simp only[co]
 grind
theorem zGD (f g:F)(v:Int):co (f.add g).ts v=co f.ts v+co g.ts v:=by
 show co (mrg 1 f.ts g.ts) v=_
 rw[jN]
 grind
theorem zRN (f g:F)(v:Int):co (f.sub g).ts v=co f.ts v - co g.ts v:=by
 show co (mrg (-1) f.ts g.ts) v=_
 rw[jN]
 grind
theorem lM {s:Scp}:∀ {l:List (Row × Rat)} {acc:F},AV s l→∃ f,sumL s acc (mR l)=some f∧(∀ v,co f.ts v=co acc.ts v+SC s v l)∧f.c=acc.c+SK s l∧(Cn acc.ts→(∀ r g,s.fm r=some g→Cn g.ts)→Cn f.ts)
 | [],acc,_=>⟨acc,rfl,fun v=>by simp only[SC];grind,by simp only[SK];grind,fun h _=>h⟩
 | t::l,acc,h=>by
  obtain⟨g,hg⟩:=h t List.mem_cons_self
  obtain⟨f,h1,h2,h3,h4⟩:=lM (s:=s) (l:=l) (acc:=acc.add (g.scale t.2)) (fun u hu=>h u (List.mem_cons_of_mem _ hu))
  have hd:fmD s t.1=g:=by unfold fmD;rw[hg];rfl
  refine⟨f,?_,fun v=>?_,?_,fun hc hcn=>h4 (hc.mrg (Cn.mrg Cn.nil (hcn _ _ hg))) hcn⟩
  ·have e:mR (t::l)=⟨t.1,zJ t.2⟩::mR l:=rfl
   rw[e]
   unfold sumL
   dsimp only
   rw[hg]
   dsimp only
   rw[z9]
   exact h1
  ·rw[h2,zGD,zEG]
   simp only[SC,hd]
   grind
  ·have e:(acc.add (g.scale t.2)).c=acc.c+(0+g.c * t.2) * 1:=rfl
   rw[h3,e]
   simp only[SK,hd]
   grind
theorem mH {s:Scp}{l:List (Row × Rat)}(hr:Rs l)(ha:AV s l):∃ f,s.sum (mR l)=(0,f)∧(∀ v,co f.ts v=SC s v l)∧f.c=SK s l∧((∀ r g,s.fm r=some g→Cn g.ts)→Cn f.ts):=by
 obtain⟨f,h1,h2,h3,h4⟩:=lM (acc:=F.zero) ha
 refine⟨f,?_,fun v=>?_,?_,fun h=>h4 Cn.nil h⟩
 ·unfold Scp.sum
  rw[mD hr (fun w e=>by cases e),h1]
  rfl
 ·rw[h2]
  have:co F.zero.ts v=0:=rfl
  rw[this]
  grind
 ·rw[h3]
  have:F.zero.c=0:=rfl
  rw[this]
  grind
theorem Cn.nil_of {l:List (Int × Rat)}(h:Cn l)(h0:∀ v,co l v=0):l=[]:=Cn.ext h Cn.nil (fun v=>by rw[h0 v];rfl)
theorem zEK {L:List Lem}{unit:Int}:∀ {r:List Lem} {n:Nat} {b:Nat × Nat},r=L.drop n→(b.1≠0→∃ m,L[b.1 - 1]?=some m∧m.u=unit∧m.up=false)∧(b.2≠0→∃ m,L[b.2 - 1]?=some m∧m.u=unit∧m.up=true) →
  ((gJ L unit n r b).1≠0→∃ m,L[(gJ L unit n r b).1 - 1]?=some m∧m.u=unit∧m.up=false)∧((gJ L unit n r b).2≠0→∃ m,L[(gJ L unit n r b).2 - 1]?=some m∧m.u=unit∧m.up=true)
 | [],n,b,_,hb=>hb
 | m::r,n,b,hr,hb=>by
  have hm:L[n]?=some m:=by
   have:(L.drop n)[0]?=some m:=by rw[←hr];rfl
   simpa using this
  have hr':r=L.drop (n+1):=by
   have:(L.drop n).drop 1=L.drop (n+1):=by rw[List.drop_drop]
   rw[←this,←hr];rfl
  unfold gJ
  refine zEK hr' ?_
  split
  ·rename_i hu
   split
   ·rename_i hup
    split
    ·exact⟨hb.1,fun _=>⟨m,hm,hu,hup⟩⟩
    ·exact hb
   ·rename_i hup
    have hup':m.up=false:=by simpa using hup
    split
    ·exact⟨fun _=>⟨m,hm,hu,hup'⟩,hb.2⟩
    ·exact hb
  ·exact hb
theorem zB7 (s:Scp)(unit:Int):((s.best unit).1≠0→∃ m,s.lems[(s.best unit).1 - 1]?=some m∧m.u=unit∧m.up=false)∧((s.best unit).2≠0→∃ m,s.lems[(s.best unit).2 - 1]?=some m∧m.u=unit∧m.up=true) :=
 zEK (by simp) ⟨fun h=>absurd rfl h,fun h=>absurd rfl h⟩
theorem tQ {s:Scp}{k:Nat}{unit:Int}{up:Bool}{m:Lem}(h0:k≠0)(hm:s.lems[k - 1]?=some m)(hu:m.u=unit)(hp:m.up=up):s.lem k unit up=some (wK s.lems k):=by
 have hl:k - 1<s.lems.length:=(List.getElem?_eq_some_iff.1 hm).1
 have e:((k:Int) - 1).toNat=k - 1:=by omega
 rw[zF5 (m:=m) (by omega) (by omega) (by rw[e];exact hm),if_pos ⟨hu,hp⟩]
 unfold wK
 rw[hm]
 rfl
theorem zDY (s:Scp)(unit:Int)(up:Bool):s.lem 0 unit up=none:=zF4 (by omega)
theorem s5 {s:Scp}(hv:s.q.valid=true){k lo hi:Int}{i:Nat}{p:F}(hk:5≤k)(hk2:k<14)(hp:s.q.g.us[i]?=some (fA p)) :
  s.fm ⟨k,i,lo,hi⟩=unF s ⟨k,i,lo,hi⟩ p (F.var (s.q.g.n+i)) (s.lem lo i false) (s.lem hi i true):=by
 have hl:i<s.q.g.us.length:=(List.getElem?_eq_some_iff.1 hp).1
 unfold Scp.fm
 rw[if_neg (by rw[hv];simp;omega),if_neg (by show ¬ k≤4;omega)]
 unfold Scp.fUn
 rw[if_pos ⟨by show (0:Int)≤i;omega,by show (i:Int)<_;omega⟩]
 have e:((⟨k,i,lo,hi⟩:Row).i).toNat=i:=by show ((i:Int)).toNat=i;omega
 rw[e,hp]
 dsimp only
 rw[uK]
theorem zSZ {s:Scp}(hv:s.q.valid=true){i:Nat}{x:R}(hx:s.q.r.lo[i]?=some x):s.fm ⟨1,i,0,0⟩=some ((F.var i).sub (F.num x.q)):=by
 unfold Scp.fm
 rw[if_neg (by rw[hv];simp),if_pos (by show (1:Int)≤4;decide)]
 unfold Scp.fIn
 rw[if_pos ⟨rfl,by show (0:Int)≤i;omega⟩,if_pos rfl]
 have e:((⟨1,i,0,0⟩:Row).i).toNat=i:=by show ((i:Int)).toNat=i;omega
 rw[e,hx]
 rfl
theorem zS0 {s:Scp}(hv:s.q.valid=true){i:Nat}{x:R}(hx:s.q.r.hi[i]?=some x):s.fm ⟨2,i,0,0⟩=some ((F.num x.q).sub (F.var i)):=by
 unfold Scp.fm
 rw[if_neg (by rw[hv];simp),if_pos (by show (2:Int)≤4;decide)]
 unfold Scp.fIn
 rw[if_pos ⟨rfl,by show (0:Int)≤i;omega⟩,if_neg (by show ¬ (2:Int)=1;decide),if_pos rfl]
 have e:((⟨2,i,0,0⟩:Row).i).toNat=i:=by show ((i:Int)).toNat=i;omega
 rw[e,hx]
 rfl
theorem zRO (q:Rat)(w:Int):co (F.num q).ts w=0:=rfl

end Go.Proofs.YtgcpehdkdnkgeaaGreat
