/- A part of the proof: PmL. -/
import Derived.Test.YtgcpehdkdnkgeaaGreatV08
set_option linter.all false
namespace Go.Proofs.YtgcpehdkdnkgeaaGreat
open Go
section
variable {w0:World} {S0:Nat→Nat→Prop} {K0:Nat→Prop} {N:Cx} {τ:Nat→PV} {objs:List (Nat × Obj')} {a:Act} {w w':World} {S S':Nat→Nat→Prop} {β:Nat→Option Nat}
theorem zIM {ps:PS}(h:Sim w0 S0 K0 N (zB ps.tmps) ps.objs a w S β){n:Nat}{o:Obj'}{b:Nat}(hm:(n,o)∈ps.objs)(hβ:β n=some b) :
  ∀ m x,(m,x)∈xL (scr n) (wR ps.objs n)→β m≠some b:=by
 intro m x hx e
 obtain⟨y,h1,_⟩:=xX _ hx
 obtain⟨h2,h3⟩:=wE h1
 exact h3 (h.obj.inj _ _ _ _ b h2 hm e hβ)
theorem Sim.wild (h:Sim w0 S0 K0 N τ objs a w S β){b:Nat}{vs vs':Array Value}{T:TypeId}(hnS:∀ i,S b i→vs'[i]?=vs[i]?)(hfree:∀ m x,(m,x)∈objs→β m≠some b)(hown:w0.heap.size≤b∨K0 b)
  (hw:w.heap[b]?=some (.cells vs T (0,0))) (hsz:vs'.size=vs.size):Sim w0 S0 K0 N τ objs a (w.setRow b vs') S β:=by
 have he:=fW (w:=w) (vs':=vs') hnS hw hsz
 refine⟨h.dfr,h.sz,?_,fun t=>(h.tmp t).evo he (fun _ _ h=>h),⟨h.obj.nd,fun m x hx=>(h.obj.at_ m x hx).evo he fun c hc=>setRow_other w b c vs' ?_,fun m x c hx hc=>by simpa using h.obj.un m x c hx hc,h.obj.inj⟩,h.own,h.keep⟩
 ·refine⟨by simpa using h.ld.size,h.ld.os,h.ld.tape,h.ld.output,fun c hc hk=>?_,fun c us U hc=>?_,fun c i hS=>by simpa using h.ld.bnd c i hS,h.ld.sub,h.ld.old⟩
  ·rw[setRow_other w b c vs' ?_]
   ·exact h.ld.same c hc hk
   ·rintro rfl
    rcases hown with h' | h'
    ·omega
    ·exact hk h'
  ·obtain⟨us',e1,e2⟩:=h.ld.shape c us U hc
   obtain⟨us'',e3,e4⟩:=he.shape c us' U e1
   exact⟨us'',e3,e4.trans e2⟩
 ·rintro rfl
  exact hfree m x hx hc
theorem Sim.addObj {ps:PS}(h:Sim w0 S0 K0 N (zB ps.tmps) ps.objs a w S β){n b:Nat}{o:Obj'}(hf:yR n ps=true)(hnS:∀ i,S b i→gI o i)(hb':b<w.heap.size)(hfree:∀ m x,(m,x)∈ps.objs→β m≠some b)(hown:w0.heap.size≤b∨K0 b)
  (hat:ObjAt w S (gF β n (some b)) n o):Sim w0 S0 K0 N (zB ps.tmps) (ps.objs++[(n,o)]) a w S (gF β n (some b)):=by
 simp only[yR,Bool.and_eq_true] at hf
 have hmem:∀ {m x},(m,x)∈ps.objs++[(n,o)]→((m,x)∈ps.objs∧m≠n)∨(m=n∧x=o):=by
  intro m x hm
  simp only[List.mem_append,List.mem_singleton] at hm
  rcases hm with hm | hm
  ·exact .inl ⟨hm,(yP hf.2 hm).1⟩
  ·cases hm;exact .inr ⟨rfl,rfl⟩
 refine⟨h.dfr,h.sz,h.ld,fun t=>(h.tmp t).upd (vK hf.1 t),⟨?_,?_,?_,?_⟩,?_,?_⟩
 ·rw[List.map_append,List.nodup_append]
  refine⟨h.obj.nd,by simp,?_⟩
  intro x hx y hy e
  simp at hy
  subst hy e
  obtain⟨⟨m,o⟩,h1,rfl⟩:=List.mem_map.1 hx
  exact (yP hf.2 h1).1 rfl
 ·intro m x hm
  rcases hmem hm with ⟨h1,h2⟩ | ⟨rfl,rfl⟩
  ·exact (h.obj.at_ m x h1).upd h2 (yP hf.2 h1).2
  ·exact hat
 ·intro m x c hm hβ
  rcases hmem hm with ⟨h1,h2⟩ | ⟨rfl,rfl⟩
  ·rw[yQ h2] at hβ;exact h.obj.un m x c h1 hβ
  ·rw[y6] at hβ
   cases hβ
   exact⟨hnS,hb'⟩
 ·intro m x m' x' c hm hm' hβ hβ'
  rcases hmem hm with ⟨h1,h2⟩ | ⟨rfl,rfl⟩
  ·rcases hmem hm' with ⟨h3,h4⟩ | ⟨rfl,rfl⟩
   ·rw[yQ h2] at hβ;rw[yQ h4] at hβ';exact h.obj.inj _ _ _ _ c h1 h3 hβ hβ'
   ·rw[yQ h2] at hβ
    rw[y6] at hβ'
    cases hβ'
    exact absurd hβ (hfree m x h1)
  ·rcases hmem hm' with ⟨h3,h4⟩ | ⟨rfl,rfl⟩
   ·rw[yQ h4] at hβ'
    rw[y6] at hβ
    cases hβ
    exact absurd hβ' (hfree m' x' h3)
   ·rfl
 ·intro m x c hm hβ
  rcases hmem hm with ⟨h1,h2⟩ | ⟨rfl,rfl⟩
  ·rw[yQ h2] at hβ;exact h.own m x c h1 hβ
  ·rw[y6] at hβ
   cases hβ
   exact hown
 ·intro m x hm hb2
  rcases hmem hm with ⟨h1,h2⟩ | ⟨rfl,rfl⟩
  ·rw[yQ h2];exact h.keep m x h1 hb2
  ·have:=wV hf.2;omega
structure Cells (w:World) (S:Nat→Nat→Prop) (n:Nat) (l:List Value) (els:List (List D)):Prop where
 len:l.length=els.length * n
 wid:∀ e,e∈els→e.length=n
 at_:∀ i j,i<els.length→j<n→RepD w S (l.getD (i * n+j) undef) ((els.getD i []).getD j .any)∧(l.getD (i * n+j) undef).oneCell'=true
theorem Cells.evo {n:Nat}{l els}(h:Cells w S n l els)(hs:∀ b i,S b i→w'.cell? ⟨b,i,none⟩=w.cell? ⟨b,i,none⟩)(hS:∀ b i,S b i→S' b i):Cells w' S' n l els :=
 ⟨h.len,h.wid,fun i j hi hj=>⟨(h.at_ i j hi hj).1.evo hs hS,(h.at_ i j hi hj).2⟩⟩
theorem eJ {i j n m:Nat}(hi:i<m)(hj:j<n):i * n+j<m * n:=by
 calc i * n+j<i * n+n:=by omega
  _=(i+1) * n:=by rw[Nat.add_mul];omega
  _≤_:=Nat.mul_le_mul_right _ hi
theorem Cells.append {n:Nat}{l k:List Value}{els xs:List (List D)}(h:Cells w S n l els)(g:Cells w S n k xs):Cells w S n (l++k) (els++xs):=by
 refine⟨by rw[List.length_append,List.length_append,h.len,g.len,Nat.add_mul],fun e he=>?_,fun i j hi hj=>?_⟩
 ·rcases List.mem_append.1 he with he | he
  ·exact h.wid e he
  ·exact g.wid e he
 ·by_cases hlt:i<els.length
  ·have h1:=h.at_ i j hlt hj
   have h2:=eJ hlt hj
   rw[←h.len] at h2
   have e1:(l++k).getD (i * n+j) undef=l.getD (i * n+j) undef:=by
    simp only[List.getD_eq_getElem?_getD];rw[List.getElem?_append_left h2]
   have e2:(els++xs).getD i []=els.getD i []:=by
    simp only[List.getD_eq_getElem?_getD];rw[List.getElem?_append_left hlt]
   rw[e1,e2]
   exact h1
  ·have hi':i - els.length<xs.length:=by simp at hi;omega
   have h1:=g.at_ (i - els.length) j hi' hj
   have hm:i * n+j=l.length+((i - els.length) * n+j):=by
    rw[h.len,←Nat.add_assoc,←Nat.add_mul];congr 2;omega
   have e1:(l++k).getD (i * n+j) undef=k.getD ((i - els.length) * n+j) undef:=by
    rw[hm]
    simp only[List.getD_eq_getElem?_getD];rw[List.getElem?_append_right (by omega)];congr 2;omega
   have e2:(els++xs).getD i []=xs.getD (i - els.length) []:=by
    simp only[List.getD_eq_getElem?_getD];rw[List.getElem?_append_right (by omega)]
   rw[e1,e2]
   exact h1
theorem Cells.obj {lg:Bool}{n:Nat}{l:List Value}{els:Unit→List (List D)}(h:Cells w S n l (els ())){b d:Nat}{vs:Array Value}{T:TypeId}(hβ:β d=some b)(hb:w.heap[b]?=some (.cells vs T (0,0)))(hle:l.length≤vs.size)
  (hv:∀ k,k<l.length→vs.getD k undef=l.getD k undef):ObjAt w S β d (j3 lg n els) :=
 zDW <| .inr ⟨b,vs,T,hβ,hb,by rw[←h.len];exact hle,h.wid,fun i j hi hj=>by
  have:=eJ hi hj
  rw[←h.len] at this
  rw[hv _ this]
  exact h.at_ i j hi hj⟩
theorem zBD {lg:Bool}{n b d:Nat}{els:Unit→List (List D)}(h:ObjAt w S β d (j3 lg n els))(hβ:β d=some b):∃ vs T,w.heap[b]?=some (.cells vs T (0,0))∧(els ()).length * n≤vs.size∧Cells w S n (vs.toList.take ((els ()).length * n)) (els ()):=by
 rcases tA (zNS lg n els) h with ⟨hn,_⟩ | ⟨b',vs,T,hβ',hb,hsz,hwid,hr⟩
 ·rw[hβ] at hn;cases hn
 ·rw[hβ] at hβ'
  cases hβ'
  refine⟨vs,T,hb,hsz,⟨by simp;omega,hwid,fun i j hi hj=>?_⟩⟩
  have hlt:=eJ hi hj
  have:(vs.toList.take ((els ()).length * n)).getD (i * n+j) undef=vs.getD (i * n+j) undef:=by
   simp only[List.getD_eq_getElem?_getD]
   rw[List.getElem?_take_of_lt hlt]
   simp
  rw[this]
  exact hr i j hi hj
theorem zKY {xs:List (List D)}{v:Value}(h:RepD w S v (.sl xs)){n:Nat}(hn:∀ e,e∈xs→e.length=n){tx e':TypeId}(hk:Pg.underlying tx=some (.slice e')):∃ news,Src Pg n tx v xs.length news w∧Cells w S n news xs:=by
 rcases gR h with ⟨rfl,a,cap,rfl⟩ | ⟨b,o,cap,s,vals,hne,hcap,hS,hs,hc,hrr,hone,rfl⟩
 ·refine⟨[],?_,⟨by simp,fun e he=>by simp at he,fun i j hi=>by simp at hi⟩⟩
  cases a with
  | none=>exact Src.ofNil w hk cap
  | some ad=>exact Src.ofSlice w hk ad 0 cap [] (by simp) (fun j u hj=>by simp at hj) (fun u hu=>by cases hu)
 ·have hsn:s=n:=by
   cases xs with
   | nil=>exact absurd rfl hne
   | cons x r=>rw[←hs x (by simp),hn x (by simp)]
  subst hsn
  by_cases hs0:s=0
  ·subst hs0
   refine⟨[],Src.ofSlice w hk _ _ cap [] (by simp) (fun j u hj=>by simp at hj) (fun u hu=>by cases hu),⟨by simp,hs,fun i j hi hj=>by omega⟩⟩
  have hsp:0<s:=by omega
  have hg:∀ k,k<xs.length * s→k / s<xs.length∧k % s<s:=fun k hk=>⟨(Nat.div_lt_iff_lt_mul hsp).2 hk,Nat.mod_lt _ hsp⟩
  have hgd:∀ k,k<xs.length * s→((List.range (xs.length * s)).map fun k=>vals (k / s) (k % s))[k]?=some (vals (k / s) (k % s)):=by
   intro k hk
   rw[List.getElem?_map,List.getElem?_range hk]
   rfl
  refine⟨(List.range (xs.length * s)).map fun k=>vals (k / s) (k % s),Src.ofSlice w hk _ _ cap _ (by simp) (fun k u hu=>?_) (fun u hu=>?_),⟨by simp,hs,fun i j hi hj=>?_⟩⟩
  ·have hk:k<xs.length * s:=by
    rcases Nat.lt_or_ge k (xs.length * s) with h' | h'
    ·exact h'
    ·rw[List.getElem?_eq_none (by simpa using h')] at hu;cases hu
   rw[hgd k hk] at hu
   cases hu
   rw[k8]
   have:=hc (k / s) (k % s) (hg k hk).1 (hg k hk).2
   rw[←this]
   congr 2
   have:=Nat.div_add_mod k s
   rw[Nat.mul_comm] at this
   omega
  ·obtain⟨k,hk,rfl⟩:=List.mem_map.1 hu
   exact hone _ _ (hg k (List.mem_range.1 hk)).1 (hg k (List.mem_range.1 hk)).2
  ·have hlt:=eJ hi hj
   have:((List.range (xs.length * s)).map fun k=>vals (k / s) (k % s)).getD (i * s+j) undef=vals i j:=by
    rw[List.getD_eq_getElem?_getD,hgd _ hlt]
    have e1:(i * s+j) / s=i:=by rw[Nat.add_comm,Nat.add_mul_div_right _ _ hsp,Nat.div_eq_of_lt hj];omega
    have e2:(i * s+j) % s=j:=by rw[Nat.add_comm,Nat.add_mul_mod_self_right,Nat.mod_eq_of_lt hj]
    rw[e1,e2]
    rfl
   rw[this]
   exact⟨hrr i j hi hj,hone i j hi hj⟩
theorem rG (t tx tr e:TypeId)(i:TypeInfo)(ht:Pg.underlying t=some (.slice e))(hi:Pg.info? e=some i)(b off sLen sCap:Nat)(x:Value)(n:Nat)(news:List Value)(hs:Src Pg i.size tx x n news w)
  (hroom:sLen+n≤sCap) {cur:Array Value} {T:TypeId} (hb:w.heap[b]?=some (.cells cur T (0,0))) (hfit:off+sLen * i.size+news.length≤cur.size) :
  (Builtin.append_ #[t,tx] tr #[.slice (some ⟨b,off,none⟩) sLen sCap,x]).run Pg w=.ok (.slice (some ⟨b,off,none⟩) (sLen+n) sCap) (w.setRow b (wr cur (off+sLen * i.size) news)):=by
 have hst:=run_storeCells_at (P:=Pg) b (off+sLen * i.size) T news 0 cur w hb (by simpa using hfit) hs.one
 simp only[Nat.add_zero] at hst
 have hst':(storeCells ⟨b,off+sLen * i.size,none⟩ news).run Pg w=.ok () (w.setRow b (wr cur (off+sLen * i.size) news)):=hst
 rcases hs.kind with ⟨e',hk⟩ | hk <;> simp [Builtin.append_,run_underlying ht,run_underlying hk,sizeOf,typeInfo,hi,hs.len,hroom,hs.cells,Addr.add_lit,hst']
theorem b5 (t tx tr e:TypeId)(i:TypeInfo)(ht:Pg.underlying t=some (.slice e))(hi:Pg.info? e=some i)(base:Option Addr)(x:Value)(news:List Value)(hs:Src Pg i.size tx x 0 news w) :
  (Builtin.append_ #[t,tx] tr #[.slice base 0 0,x]).run Pg w=.ok (.slice base 0 0) w:=by
 have hl:news=[]:=List.eq_nil_of_length_eq_zero (by simpa using hs.newsLen)
 subst hl
 cases base <;> rcases hs.kind with ⟨e',hk⟩ | hk <;> simp [Builtin.append_,run_underlying ht,run_underlying hk,sizeOf,typeInfo,hi,hs.len,hs.cells,storeCells]
theorem aA (z:Array Value)(n:Nat):(Builtin.zeroCells z n).size=n * z.size:=by simp [Builtin.zeroCells]
theorem rT {l:List Value}{z:Array Value}{k:Nat}(hk:k<l.length):(l.toArray++z).getD k undef=l.getD k undef:=by
 simp [Array.getD_eq_getD_getElem?,Array.getElem?_append,hk]
theorem zIR {ps : PS} {o : Oper} {c : Call} {t tx : TypeId} {base x : Operand} {d nm : Nat} (hop : o.op = .call c) (hcl : c.callee = .builtin .append) (hargs : c.args = #[base, x]) (htys : c.argTypes = #[t, tx]) (htx : tT (ty tx) = true) (hod : o.dst = some d) (hd : d < N)
    {K : PS → Prop} {Km : Act → World → Prop} {Q : Exit → Act → World → Prop} (h : Sim w0 S0 K0 N (zB ps.tmps) ps.objs a w S β) {n b : Nat} {z : List PV} {xs : Unit → List (List D)} (hty : ty t = .sli n b z)
    (hx : ev (zB ps.tmps) x = .sl xs ∨ (ev (zB ps.tmps) x = .nil ∧ xs () = [])) (hwid : Wid n xs)
    (hs : (ev (zB ps.tmps) base = .nil ∧ Room (fun _ => ((xs ()).length : Nat)) b ∧ yR nm ps = true ∧ K ⟨uG ps.tmps d (.osl nm n (fun _ => 0) (fun _ => (xs ()).length)), ps.objs ++ [(nm, .arr n xs)]⟩) ∨
     (∃ lg m o len els, ev (zB ps.tmps) base = .osl m n o len ∧ yG ps.objs m = some (j3 lg n els) ∧ o () = 0 ∧ len () = (els ()).length ∧ Room (fun _ => (((els ()).length + (xs ()).length : Nat) : Int)) b ∧
       yR nm ⟨vW (scr m) ps.tmps, xL (scr m) (wR ps.objs m)⟩ = true ∧
       K ⟨uG (vW (scr m) ps.tmps) d (.osl nm n (fun _ => 0) (fun _ => (els ()).length + (xs ()).length)), xL (scr m) (wR ps.objs m) ++ [(nm, j3 lg n (fun _ => els () ++ xs ()))]⟩))
    (hk : ∀ ps' a' w' S' β', K ps' → Sim w0 S0 K0 N (zB ps'.tmps) ps'.objs a' w' S' β' → Km a' w') : o.wp Pg a w Km Q := by
  obtain ⟨inf, el, j, zv, h1, h2, h3, h4, h5, h6, h7, h8, h9, h10, h11, h12⟩ := qM hty
  obtain ⟨e', hk'⟩ : ∃ e', Pg.underlying tx = some (.slice e') := by
    cases htx' : ty tx with
    | sli n' b' z' => obtain ⟨_, e', _, _, _, _, _, g4, _⟩ := qM htx'; exact ⟨e', g4⟩
    | _ => rw [htx'] at htx; cases htx
  have hrx := h.eval x; have hrb := h.eval base
  have hxd : RepD w S (a.eval x) (.sl (xs ())) := by
    rcases hx with hx | ⟨hx, hx0⟩
    · rw [hx] at hrx; exact bM hrx
    · rw [hx] at hrx
      obtain ⟨aa, hv⟩ := uL hrx
      rw [hv, hx0]
      exact .sl0 _ _
  obtain ⟨news, hsrc, hcells⟩ := zKY hxd hwid.h hk'
  rw [← h7] at hsrc
  have hgo : ∀ v w', (Builtin.append_ #[t, tx] o.type #[a.eval base, a.eval x]).run Pg w = .ok v w' → Km (a.put (some d) v) w' → o.wp Pg a w Km Q := by
    intro v w' hr hkm
    refine aB (v := v) (w' := w') ?_ (by rw [hod]; exact hkm)
    simp [execOp, hop, resolve, hcl, invoke, Go.builtin, hargs, htys, hr]
  
  have grow : ∀ (lg : Bool) {qs : PS} {β1 : Nat → Option Nat} (hq : Sim w0 S0 K0 N (zB qs.tmps) qs.objs a w S β1) (hf : yR nm qs = true) (av : Option Addr) (sLen sCap : Nat) (olds : List Value) (els : Unit → List (List D)) (hba : a.eval base = .slice av sLen sCap)
      (hold : (Builtin.firstCells j.size sLen (.slice av sLen sCap)).run Pg w.drew = .ok olds.toArray w.drew) (hce : Cells w S n olds (els ())) (hsl : sLen = (els ()).length) (hg : sCap < sLen + (xs ()).length)
      (hroom : ((sLen + (xs ()).length : Nat) : Int) * (b : Int) ≤ 70368744177664)
      (hK : K ⟨uG qs.tmps d (.osl nm n (fun _ => 0) (fun _ => (els ()).length + (xs ()).length)), qs.objs ++ [(nm, j3 lg n (fun _ => els () ++ xs ()))]⟩), o.wp Pg a w Km Q := by
    intro lg qs β1 hq hf av sLen sCap olds els hba hold hce hsl hg hroom hK
    have hb1 : sLen + (xs ()).length ≤ (sLen + (xs ()).length) * b := Nat.le_mul_of_pos_right _ h12
    have hroom' : (sLen + (xs ()).length) * b ≤ 70368744177664 := by
      have : (((sLen + (xs ()).length) * b : Nat) : Int) ≤ 70368744177664 := by rw [Int.natCast_mul]; exact hroom
      omega
    have hfit : Builtin.nextslicecap (sLen + (xs ()).length) sCap * j.bytes ≤ 281474976710656 := by
      have := nextslicecap_le hg
      rw [h8]
      calc _ ≤ (2 * (sLen + (xs ()).length)) * b := Nat.mul_le_mul_right _ this
        _ = 2 * ((sLen + (xs ()).length) * b) := by rw [Nat.mul_assoc]
        _ ≤ _ := by omega
    have hrun := run_append_grow_src (P := Pg) w t tx o.type el j zv h4 h5 h6 av sLen sCap olds hold (a.eval x) (xs ()).length news hsrc hg (by omega) hfit
    rw [← hba] at hrun
    refine hgo _ _ hrun ?_
    generalize hcap : grownCap w (sLen + (xs ()).length) sCap el = cap
    have hge : sLen + (xs ()).length ≤ cap := by rw [← hcap]; exact grownCap_ge w _ _ _
    have hld1 := qU (w := w) (S := S) h.ld.bnd
    have hbd : ∀ c i, S c i → c < w.drew.heap.size := h.ld.bnd
    have hld2 := gY (w := w.drew) (S := S) hbd (.cells ((olds ++ news).toArray ++ Builtin.zeroCells zv.cells (cap - (sLen + (xs ()).length))) el)
    have hld := hld1.trans hld2
    have hcc := (hce.append hcells)
    have hcl' : (olds ++ news).length = (sLen + (xs ()).length) * n := by rw [hcc.len, List.length_append, hsl]
    have hsz : ((olds ++ news).toArray ++ Builtin.zeroCells zv.cells (cap - (sLen + (xs ()).length))).size = cap * n := by
      rw [Array.size_append, aA, h9, List.size_toArray, hcl', ← Nat.add_mul]
      congr 1
      omega
    have hblk : (w.drew.alloc (.cells ((olds ++ news).toArray ++ Builtin.zeroCells zv.cells (cap - (sLen + (xs ()).length))) el)).heap[w.heap.size]? = some (.cells ((olds ++ news).toArray ++ Builtin.zeroCells zv.cells (cap - (sLen + (xs ()).length))) el (0, 0)) := heap_alloc_new w.drew _
    have hn := hq.newObj (b := w.heap.size) (o := j3 lg n (fun _ => els () ++ xs ())) hf hld (Nat.le_refl _) (by simp)
      (Cells.obj (l := olds ++ news) (hcc.evo (hld.evo h.ld.bnd).same (hld.subs h.ld.bnd)) y6 hblk (by rw [hsz, hcl']; exact Nat.mul_le_mul_right _ hge) (fun k hk => rT hk))
    refine hk _ _ _ _ _ hK (hn.putT' d hd ?_)
    have := Rep.osl (w := w.drew.alloc (.cells ((olds ++ news).toArray ++ Builtin.zeroCells zv.cells (cap - (sLen + (xs ()).length))) el)) (S := S) (β := gF β1 nm (some w.heap.size)) (n := nm) (s := n) (cap := cap) (b := w.heap.size) (o := fun _ => 0) (len := fun _ => (els ()).length + (xs ()).length)
      y6 (by rw [← hsl]; exact hge) hblk (by rw [hsz, Nat.zero_add]; exact Nat.le_refl _)
    rw [Nat.zero_mul] at this
    have e : Value.slice (some ⟨w.heap.size, 0, none⟩) (sLen + (xs ()).length) cap = Value.slice (some ⟨w.heap.size, 0, none⟩) ((els ()).length + (xs ()).length) cap := by rw [hsl]
    rw [e]
    exact this
  
  have onNil : ∀ (lg : Bool) {qs : PS} {β1 : Nat → Option Nat} (hq : Sim w0 S0 K0 N (zB qs.tmps) qs.objs a w S β1) (hf : yR nm qs = true) (av : Option Addr) (hba : a.eval base = .slice av 0 0) (els : Unit → List (List D)) (he0 : els () = [])
      (hroom : (((xs ()).length : Nat) : Int) * (b : Int) ≤ 70368744177664)
      (hK : K ⟨uG qs.tmps d (.osl nm n (fun _ => 0) (fun _ => (els ()).length + (xs ()).length)), qs.objs ++ [(nm, j3 lg n (fun _ => els () ++ xs ()))]⟩), o.wp Pg a w Km Q := by
    intro lg qs β1 hq hf av hba els he0 hroom hK
    by_cases hx0 : (xs ()).length = 0
    · have hsrc' := hsrc
      rw [hx0] at hsrc'
      have hrun := b5 (w := w) t tx o.type el j h4 h5 av (a.eval x) news hsrc'
      rw [← hba] at hrun
      refine hgo _ _ hrun ?_
      have hxe : xs () = [] := List.eq_nil_of_length_eq_zero hx0
      have hn := hq.newNil (lg := lg) (n := nm) (s := n) (els := fun _ => els () ++ xs ()) hf (by rw [he0, hxe]; rfl)
      refine hk _ _ _ _ _ hK (hn.putT' d hd ?_)
      rw [hba]
      exact .osl0 y6 rfl (by show (els ()).length + (xs ()).length = 0; rw [he0, hx0]; rfl)
    · refine grow lg hq hf av 0 0 [] els hba ?_ ⟨by rw [he0]; simp, fun e he => (by rw [he0] at he; cases he), fun i j hi => (by rw [he0] at hi; simp at hi)⟩ (by rw [he0]; rfl) (by omega) (by rw [Nat.zero_add]; exact hroom) hK
      cases av with
      | none => exact run_firstCells_none w.drew j.size 0 0 0
      | some ad => exact run_firstCells_some w.drew j.size 0 ad 0 0 [] (by simp) (fun j u hj => by simp at hj)
  rcases hs with ⟨hb, hR, hf, hK⟩ | ⟨lg, m, oo, len, els, hb, ho, ho0, hlen, hR, hf, hK⟩
  · rw [hb] at hrb
    obtain ⟨av, hv⟩ := uL hrb
    have hK' : K ⟨uG ps.tmps d (.osl nm n (fun _ => 0) (fun _ => ((fun _ => []) () : List (List D)).length + (xs ()).length)), ps.objs ++ [(nm, .arr n (fun _ => ((fun _ => []) () : List (List D)) ++ xs ()))]⟩ := by
      have e1 : (fun _ : Unit => ([] : List (List D)).length + (xs ()).length) = fun _ => (xs ()).length := by funext _; simp
      have e2 : (fun _ : Unit => ([] : List (List D)) ++ xs ()) = xs := by funext _; rfl
      show K ⟨uG ps.tmps d (.osl nm n (fun _ => 0) (fun _ : Unit => ([] : List (List D)).length + (xs ()).length)), ps.objs ++ [(nm, .arr n (fun _ : Unit => ([] : List (List D)) ++ xs ()))]⟩
      rw [e1, e2]
      exact hK
    exact onNil false h hf av hv (fun _ => []) rfl hR.hi hK'
  · rw [hb] at hrb
    have hmem := xK ho
    have hdrop := h.drop m
    have hq : Sim w0 S0 K0 N (zB (PS.mk (vW (scr m) ps.tmps) (xL (scr m) (wR ps.objs m))).tmps) (PS.mk (vW (scr m) ps.tmps) (xL (scr m) (wR ps.objs m))).objs a w S β := hdrop
    rcases gQ hrb with ⟨hn, _, hl0, av, hv⟩ | ⟨bb, cap, vs, T, hβ, hlc, hw, hsz, hv⟩
    · have he0 : els () = [] := List.eq_nil_of_length_eq_zero (by omega)
      exact onNil lg hq hf av hv els he0 (by have := hR.hi; rw [he0] at this; simpa using this) hK
    · obtain ⟨vs', T', hw', hlen', hce⟩ := zBD (h.obj.at_ m _ hmem) hβ
      rw [hw] at hw'
      cases hw'
      rw [ho0, Nat.zero_mul] at hv
      rw [ho0, Nat.zero_add] at hsz
      obtain ⟨hnS, hlt⟩ := h.obj.un m _ bb hmem hβ
      by_cases hroom : len () + (xs ()).length ≤ cap
      · have hnl : news.length = (xs ()).length * n := hcells.len
        have hfit : 0 + len () * j.size + news.length ≤ vs.size := by
          rw [h7, hnl, Nat.zero_add, ← Nat.add_mul]
          exact Nat.le_trans (Nat.mul_le_mul_right _ hroom) hsz
        have hrun := rG (w := w) t tx o.type el j h4 h5 bb 0 (len ()) cap (a.eval x) (xs ()).length news hsrc hroom hw hfit
        rw [← hv] at hrun
        refine hgo _ _ hrun ?_
        have hfree := zIM h hmem hβ
        have hwsz := zBF hfit
        have hold : ∀ i, S bb i → i < (els ()).length * n := fun i hS => by
          have := hnS i hS
          cases lg with
          | true => exact this
          | false => exact this.elim
        have hnS' : ∀ i, S bb i → (wr vs (0 + len () * j.size) news)[i]? = vs[i]? := fun i hS => by
          have h1 := hold i hS
          have h2 : i < vs.size := by
            have : (els ()).length * n ≤ vs.size := hlen'
            omega
          have h3 := lJ hfit i
          rw [if_neg (by rw [h7, hlen]; omega)] at h3
          have h4 : i < (wr vs (0 + len () * j.size) news).size := by rw [hwsz]; exact h2
          rw [Array.getElem?_eq_getElem h4, Array.getElem?_eq_getElem h2]
          simp only [Array.getD_eq_getD_getElem?, Array.getElem?_eq_getElem h4, Array.getElem?_eq_getElem h2, Option.getD_some] at h3
          rw [h3]
        have hwild := Sim.wild hq (vs' := wr vs (0 + len () * j.size) news) hnS' hfree (h.own m _ bb hmem hβ) hw hwsz
        have he := fW (w := w) (S := S) (vs' := wr vs (0 + len () * j.size) news) hnS' hw hwsz
        have hcc := hce.append hcells
        have hcl' : (vs.toList.take ((els ()).length * n) ++ news).length = ((els ()).length + (xs ()).length) * n := by rw [hcc.len, List.length_append]
        have hblk : (w.setRow bb (wr vs (0 + len () * j.size) news)).heap[bb]? = some (.cells (wr vs (0 + len () * j.size) news) T (0, 0)) := setRow_heap w bb vs _ T _ hw
        have hadd := Sim.addObj (ps := PS.mk (vW (scr m) ps.tmps) (xL (scr m) (wR ps.objs m))) hwild (o := j3 lg n (fun _ => els () ++ xs ())) hf (fun i hS => by
          have h1 := hnS i hS
          cases lg with
          | true =>
            have h2 : i < (els ()).length * n := h1
            show i < (els () ++ xs ()).length * n
            rw [List.length_append, Nat.add_mul]
            omega
          | false => exact h1.elim) (by simpa using hlt) hfree (h.own m _ bb hmem hβ)
          (Cells.obj (l := vs.toList.take ((els ()).length * n) ++ news) (hcc.evo he.same (fun _ _ h => h)) y6 hblk (by rw [hwsz, hcl', ← hlen]; exact Nat.le_trans (Nat.mul_le_mul_right _ hroom) hsz) (fun k hk => by
            rw [lJ hfit]
            have htl : (vs.toList.take ((els ()).length * n)).length = (els ()).length * n := by simp; omega
            rw [h7, Nat.zero_add, hlen]
            rw [hcl', Nat.add_mul] at hk
            by_cases hkl : k < (els ()).length * n
            · rw [if_neg (by omega), List.getD_eq_getElem?_getD, List.getElem?_append_left (by rw [htl]; exact hkl), List.getElem?_take_of_lt hkl]
              simp
            · rw [if_pos (by omega)]
              simp only [List.getD_eq_getElem?_getD]
              rw [List.getElem?_append_right (by rw [htl]; omega), htl]))
        refine hk _ _ _ _ _ hK (hadd.putT' d hd ?_)
        have := Rep.osl (w := w.setRow bb (wr vs (0 + len () * j.size) news)) (S := S) (β := gF β nm (some bb)) (n := nm) (s := n) (cap := cap) (b := bb) (o := fun _ => 0) (len := fun _ => (els ()).length + (xs ()).length)
          y6 (by rw [← hlen]; exact hroom) hblk (by rw [hwsz, Nat.zero_add]; exact hsz)
        rw [Nat.zero_mul] at this
        have e : Value.slice (some ⟨bb, 0, none⟩) (len () + (xs ()).length) cap = Value.slice (some ⟨bb, 0, none⟩) ((els ()).length + (xs ()).length) cap := by rw [hlen]
        rw [e]
        exact this
      · refine grow lg hq hf (some ⟨bb, 0, none⟩) (len ()) cap (vs.toList.take ((els ()).length * n)) els hv ?_ hce hlen (by omega) (by rw [hlen]; exact hR.hi) hK
        refine run_firstCells_some w.drew j.size (len ()) ⟨bb, 0, none⟩ (len ()) cap _ (by rw [h7, hlen]; exact hce.len) (fun k u hu => ?_)
        have hkl : k < (els ()).length * n := by
          rcases Nat.lt_or_ge k ((els ()).length * n) with h' | h'
          · exact h'
          · rw [List.getElem?_eq_none (by simp; omega)] at hu; cases hu
        rw [List.getElem?_take_of_lt hkl] at hu
        rw [k8, Nat.zero_add]
        have hc := bX hw k (by omega)
        have : vs.getD k undef = u := by
          have : vs[k]? = some u := by simpa using hu
          simp [this]
        rw [this] at hc
        exact hc
theorem zBE {o:Oper}{c:Call}{t tx:TypeId}{base x:Operand}(hop:o.op=.call c)(hcl:c.callee=.builtin .append)(hargs:c.args=#[base,x])(htys:c.argTypes=#[t,tx])(htx:tT (ty tx)=true)
  {K:PV→Prop} {Km:Act→World→Prop} {Q:Exit→Act→World→Prop} (h:Sim w0 S0 K0 N τ objs a w S β) {n b:Nat} {z:List PV} (hty:ty t=.sli n b z) (hbn:ev τ base=.nil) (hs:appN n b (ev τ x) K)
  (hk:∀ pv w' S' v,K pv→Leads w S vV w' S'→Rep w' S' β v pv→Km (a.put o.dst v) w'):o.wp Pg a w Km Q:=by
 obtain⟨inf,el,j,zv,h1,h2,h3,h4,h5,h6,h7,h8,h9,h10,h11,h12⟩:=qM hty
 obtain⟨e',hk'⟩:∃ e',Pg.underlying tx=some (.slice e'):=by
  cases htx':ty tx with
  | sli n' b' z'=>obtain⟨_,e',_,_,_,_,_,g4,_⟩:=qM htx';exact⟨e',g4⟩
  | _=>rw[htx'] at htx;cases htx
 have hrx:=h.eval x;have hrb:=h.eval base
 rw[hbn] at hrb
 obtain⟨av,hba⟩:=uL hrb
 have hgo:∀ v w',(Builtin.append_ #[t,tx] o.type #[a.eval base,a.eval x]).run Pg w=.ok v w'→Km (a.put o.dst v) w'→o.wp Pg a w Km Q:=by
  intro v w' hr hkm
  refine aB (v:=v) (w':=w') ?_ hkm
  simp [execOp,hop,resolve,hcl,invoke,Go.builtin,hargs,htys,hr]
 obtain⟨xs,hwid,hR,hxd,hK,hK0⟩:∃ xs:Unit→List (List D),Wid n xs∧Room (fun _=>((xs ()).length:Nat)) b∧RepD w S (a.eval x) (.sl (xs ()))∧(xs ()≠[]→K (.sl xs))∧(xs ()=[]→∃ pv,K pv∧∀ w' S' aa,Rep w' S' β (.slice aa 0 0) pv):=by
  unfold appN at hs
  split at hs
  ·rename_i xs hx
   rw[hx] at hrx
   exact⟨xs,hs.1,hs.2.1,bM hrx,fun _=>hs.2.2,fun e=>⟨_,hs.2.2,fun w' S' aa=>.c rfl (by show RepD _ _ _ (.sl (xs ()));rw[e];exact .sl0 _ _)⟩⟩
  ·rename_i hx
   rw[hx] at hrx
   obtain⟨aa,hv⟩:=uL hrx
   exact⟨fun _=>[],⟨fun e he=>absurd he (by simp)⟩,⟨by simp,by simp⟩,by rw[hv];exact .sl0 _ _,fun e=>absurd rfl e,fun _=>⟨_,hs,fun w' S' aa=>.nil aa⟩⟩
  ·exact hs.elim
 obtain⟨news,hsrc,hcells⟩:=zKY hxd hwid.h hk'
 rw[←h7] at hsrc
 by_cases hx0:(xs ()).length=0
 ·have hsrc':=hsrc
  rw[hx0] at hsrc'
  have hrun:=b5 (w:=w) t tx o.type el j h4 h5 av (a.eval x) news hsrc'
  rw[←hba] at hrun
  obtain⟨pv,q1,q2⟩:=hK0 (List.eq_nil_of_length_eq_zero hx0)
  refine hgo _ _ hrun ?_
  refine hk _ _ _ _ q1 (Leads.refl h.ld.bnd) ?_
  rw[hba]
  exact q2 _ _ _
 ·have hne:xs ()≠[]:=fun e=>hx0 (by rw[e];rfl)
  have hold:(Builtin.firstCells j.size 0 (.slice av 0 0)).run Pg w.drew=.ok ([]:List Value).toArray w.drew:=by
   cases av with
   | none=>exact run_firstCells_none w.drew j.size 0 0 0
   | some ad=>exact run_firstCells_some w.drew j.size 0 ad 0 0 [] (by simp) (fun j u hj=>by simp at hj)
  have hb1:(xs ()).length≤(xs ()).length * b:=Nat.le_mul_of_pos_right _ h12
  have hroom':(xs ()).length * b≤70368744177664:=by
   have:=hR.hi
   have:(((xs ()).length * b:Nat):Int)≤70368744177664:=by rw[Int.natCast_mul];exact this
   omega
  have hfit:Builtin.nextslicecap (0+(xs ()).length) 0 * j.bytes≤281474976710656:=by
   have:=nextslicecap_le (show 0<0+(xs ()).length by omega)
   rw[h8]
   calc _≤(2 * (0+(xs ()).length)) * b:=Nat.mul_le_mul_right _ this
    _=2 * ((xs ()).length * b):=by rw[Nat.zero_add,Nat.mul_assoc]
    _≤_:=by omega
  have hrun:=run_append_grow_src (P:=Pg) w t tx o.type el j zv h4 h5 h6 av 0 0 [] hold (a.eval x) (xs ()).length news hsrc (by omega) (by omega) hfit
  rw[←hba] at hrun
  refine hgo _ _ hrun ?_
  generalize hcap:grownCap w (0+(xs ()).length) 0 el=cap
  have hge:0+(xs ()).length≤cap:=by rw[←hcap];exact grownCap_ge w _ _ _
  have hld1:=qU (w:=w) (S:=S) h.ld.bnd
  have hbd:∀ c i,S c i→c<w.drew.heap.size:=h.ld.bnd
  have hld2:=n8 (w:=w.drew) (S:=S) hbd (.cells (([]++news).toArray++Builtin.zeroCells zv.cells (cap - (0+(xs ()).length))) el)
  have hld:=hld1.trans hld2
  have hsz:(([]++news).toArray++Builtin.zeroCells zv.cells (cap - (0+(xs ()).length))).size=cap * n:=by
   rw[Array.size_append,aA,h9,List.size_toArray,List.nil_append,hcells.len,←Nat.add_mul]
   congr 1
   omega
  have hblk:(w.drew.alloc (.cells (([]++news).toArray++Builtin.zeroCells zv.cells (cap - (0+(xs ()).length))) el)).heap[w.heap.size]?=some (.cells (([]++news).toArray++Builtin.zeroCells zv.cells (cap - (0+(xs ()).length))) el (0,0)):=heap_alloc_new w.drew _
  have hce:=hcells.evo (hld.evo h.ld.bnd).same (hld.subs h.ld.bnd)
  refine hk _ _ _ _ (hK hne) hld (.c rfl ?_)
  show RepD _ _ _ (.sl (xs ()))
  refine (congrArg (fun m=>RepD (w.drew.alloc (.cells (([]++news).toArray++Builtin.zeroCells zv.cells (cap - (0+(xs ()).length))) el)) _ (.slice (some ⟨w.heap.size,0,none⟩) m cap) (.sl (xs ()))) (Nat.zero_add (xs ()).length)).mpr ?_
  have hin:∀ i q,i<(xs ()).length→q<n→i * n+q<news.length:=fun i q hi hq=>by rw[hcells.len];exact eJ hi hq
  have hval:∀ k,k<news.length→(([]++news).toArray++Builtin.zeroCells zv.cells (cap - (0+(xs ()).length))).getD k undef=news.getD k undef:=fun k hk=>rT hk
  refine RepD.sl (s:=n) (fun i q=>news.getD (i * n+q) undef) hne (by omega) (fun _ _ _ _=>Or.inr rfl) hcells.wid (fun i q hi hq=>?_) (fun i q hi hq=>(hce.at_ i q hi hq).2) (fun i q hi hq=>(hce.at_ i q hi hq).1)
  have hlt:=hin i q hi hq
  have hlt2:i * n+q<(([]++news).toArray++Builtin.zeroCells zv.cells (cap - (0+(xs ()).length))).size:=by
   rw[Array.size_append,List.size_toArray,List.nil_append];omega
  have hca:=bX hblk _ hlt2
  rw[hval _ hlt] at hca
  rw[show 0+i * n+q=i * n+q by omega]
  exact hca
end
end Go.Proofs.YtgcpehdkdnkgeaaGreat
