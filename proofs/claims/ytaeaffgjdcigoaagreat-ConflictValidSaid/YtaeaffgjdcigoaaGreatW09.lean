/- A part of the proof: PmL. -/
import Derived.Test.YtaeaffgjdcigoaaGreatW08
set_option linter.all false
namespace Go.Proofs.YtaeaffgjdcigoaaGreat
open Go
section
variable {w0:World} {S0:Nat->Nat->Prop} {K0:Nat->Prop} {N:Cx} {τ:Nat->PV} {objs:List (Nat×Obj')} {a:Act} {w w':World} {S S':Nat->Nat->Prop} {β:Bm}
theorem Dd {ps:PS}(h:Sim w0 S0 K0 N (zE ps.tmps) ps.objs a w S β){n:Nat}{o:Obj'}{b:Nat}(hm:(n,o)∈ps.objs)(hβ:β n=some b):∀ m x,(m,x)∈xL (scr n) (v8 ps.objs n)->¬Own β m x b:=by intro m x hx e;obtain⟨y,h1,rfl⟩:=vQ _ hx;obtain⟨h2,h3⟩:=vR h1;exact h3 (h.obj.inj _ _ _ _ b h2 hm (qD e) (.inl hβ))
theorem Sim.wild (h:Sim w0 S0 K0 N τ objs a w S β){b:Nat}{vs vs':Array Value}{T:TypeId}(hnS:∀ i,S b i->vs'[i]?=vs[i]?)(hfree:∀ m x,(m,x)∈objs->¬Own β m x b)(hown:w0.heap.size<=b\/K0 b) (hw:w.heap[b]?=some (.cells vs T (0,0))) (hsz:vs'.size=vs.size):Sim w0 S0 K0 N τ objs a (w.setRow b vs') S β:=by have he:=rD (w:=w) (vs':=vs') hnS hw hsz;refine⟨h.dfr,h.sz,?_,λt=>(h.tmp t).evo he (λ_ _ h=>h),⟨h.obj.nd,λm x hx=>(h.obj.at_ m x hx).evo he λc hc=>setRow_other w b c vs' ?_,λm x c hx hc=>by simpa using h.obj.un m x c hx hc,h.obj.inj⟩,h.own,h.keep⟩;{refine⟨by simpa using h.ld.size,h.ld.os,h.ld.tape,h.ld.output,λc hc hk=>?_,λc us U hc=>?_,λc i hS=>by simpa using h.ld.bnd c i hS,h.ld.sub,h.ld.old⟩;{rw[setRow_other w b c vs' ?_];{exact h.ld.same c hc hk};grind};{obtain⟨us',e1,e2⟩:=h.ld.shape c us U hc;obtain⟨us'',e3,e4⟩:=he.shape c us' U e1;grind}};grind
theorem Sim.addObj {ps:PS}(h:Sim w0 S0 K0 N (zE ps.tmps) ps.objs a w S β){n b:Nat}{o:Obj'}(hf:yQ n ps=true)(hnS:∀ i,S b i->gK o i)(hb':b<w.heap.size)(hfree:∀ m x,(m,x)∈ps.objs->¬Own β m x b)(hown:w0.heap.size<=b\/K0 b) (hat:ObjAt w S (fO β n (some b)) n o) (hr:∀ i,¬jQ o i):Sim w0 S0 K0 N (zE ps.tmps) (ps.objs++[(n,o)]) a w S (fO β n (some b)):=by
 simp only[yQ,yP] at hf;have hmem:∀ {m x},(m,x)∈ps.objs++[(n,o)]->((m,x)∈ps.objs/\m≠n)\/(m=n/\x=o):=by intro m x hm;simp only[uX,kJ] at hm;rcases hm with hm|hm;{exact .inl ⟨hm,(xY hf.2 hm).1⟩};grind
 refine⟨h.dfr,h.sz,h.ld,λt=>(h.tmp t).upd (qK hf.1 t),⟨?_,?_,?_,?_⟩,?_,?_⟩;{rw[gP,W6];refine⟨h.obj.nd,by simp,?_⟩;intro x hx y hy e;simp at hy;subst hy e;obtain⟨⟨m,o⟩,h1,rfl⟩:=yZ.1 hx;exact (xY hf.2 h1).1 rfl};{intro m x hm;rcases hmem hm with⟨h1,h2⟩|⟨rfl,rfl⟩;{exact (h.obj.at_ m x h1).upd h2 (xY hf.2 h1).2};omega};{intro m x c hm hβ;rcases hmem hm with⟨h1,h2⟩|⟨rfl,rfl⟩;{exact h.obj.un m x c h1 (vN h2 hβ)};{have hβ:=xC hr hβ;grind [xG]}};{intro m x m' x' c hm hm' hβ hβ';rcases hmem hm with⟨h1,h2⟩|⟨rfl,rfl⟩;{rcases hmem hm' with⟨h3,h4⟩|⟨rfl,rfl⟩;{exact h.obj.inj _ _ _ _ c h1 h3 (vN h2 hβ) (vN h4 hβ')};{have hβ':=xC hr hβ';grind [xG,vN]}};{rcases hmem hm' with⟨h3,h4⟩|⟨rfl,rfl⟩;{have hβ:=xC hr hβ;grind [xG,vN]};{rfl}}};{intro m x c hm hβ;rcases hmem hm with⟨h1,h2⟩|⟨rfl,rfl⟩;{exact h.own m x c h1 (vN h2 hβ)};{have hβ:=xC hr hβ;grind [xG]}};{intro m x hm hb2;rcases hmem hm with⟨h1,h2⟩|⟨rfl,rfl⟩;{rw[uD h2];exact h.keep m x h1 hb2};{have:=jL hf.2;omega}}
structure Cells (w:World) (S:Nat->Nat->Prop) (n:Nat) (l:List Value) (els:List (List D)):Prop where
 len:l.length=els.length*n
 wid:∀ e,e∈els->e.length=n
 at_:∀ i j,i<els.length->j<n->RepD w S (l.getD (i*n+j) undef) ((els.getD i []).getD j .any)/\(l.getD (i*n+j) undef).oneCell'=true
theorem Cells.evo {n:Nat}{l els}(h:Cells w S n l els)(hs:∀ b i,S b i->w'.cell? ⟨b,i,none⟩=w.cell? ⟨b,i,none⟩)(hS:∀ b i,S b i->S' b i):Cells w' S' n l els :=
 ⟨h.len,h.wid,λi j hi hj=>⟨(h.at_ i j hi hj).1.evo hs hS,(h.at_ i j hi hj).2⟩⟩
theorem ZP {i j n m:Nat}(hi:i<m)(hj:j<n):i*n+j<m*n:=by
 calc i*n+j<i*n+n:=by omega
  _=(i+1)*n:=by grind
  _<=_:=kG _ hi
theorem Cells.append {n:Nat}{l k:List Value}{els xs:List (List D)}(h:Cells w S n l els)(g:Cells w S n k xs):Cells w S n (l++k) (els++xs):=by
 refine⟨by rw[gD,gD,h.len,g.len,jI],λe he=>?_,λi j hi hj=>?_⟩;{rcases uX.1 he with he|he;{exact h.wid e he};{exact g.wid e he}}
 ·by_cases hlt:i<els.length;{have h1:=h.at_ i j hlt hj;have h2:=ZP hlt hj;rw[<-h.len] at h2;grind}
  ·(have hi':i-els.length<xs.length:=by grind);have h1:=g.at_ (i-els.length) j hi' hj
   (have hm:i*n+j=l.length+((i-els.length)*n+j):=by rw[h.len,<-iG,<-jI];grind);grind
theorem Cells.obj {lg:Bool}{n:Nat}{l:List Value}{els:Unit->List (List D)}(h:Cells w S n l (els ())){b d:Nat}{vs:Array Value}{T:TypeId}(hβ:β d=some b)(hb:w.heap[b]?=some (.cells vs T (0,0)))(hle:l.length<=vs.size) (hv:∀ k,k<l.length->vs.getD k undef=l.getD k undef):ObjAt w S β d (fH lg n els) :=
 KF <| .inr ⟨b,vs,T,hβ,hb,by rw[<-h.len];exact hle,h.wid,λi j hi hj=>by have:=ZP hi hj;rw[<-h.len] at this;rw[hv _ this];exact h.at_ i j hi hj⟩
theorem Zr {lg:Bool}{n b d:Nat}{els:Unit->List (List D)}(h:ObjAt w S β d (fH lg n els))(hβ:β d=some b):∃ vs T,w.heap[b]?=some (.cells vs T (0,0))/\(els ()).length*n<=vs.size/\Cells w S n (vs.toList.take ((els ()).length*n)) (els ()):=by
 rcases oI (SH lg n els) h with⟨hn,_⟩|⟨b',vs,T,hβ',hb,hsz,hwid,hr⟩;{grind}
 ·(rw[hβ] at hβ';cases hβ';refine⟨vs,T,hb,hsz,⟨by grind,hwid,λi j hi hj=>?_⟩⟩;have hlt:=ZP hi hj;have:(vs.toList.take ((els ()).length*n)).getD (i*n+j) undef=vs.getD (i*n+j) undef:=by simp only[gE];rw[bT hlt];simp);grind
theorem Cells.sub {n k j:Nat}{l:List Value}{els:List (List D)}(h:Cells w S n l els)(hk:k+j<=els.length):Cells w S n ((l.drop (k*n)).take (j*n)) ((els.drop k).take j):=by
 have hlen:=h.len;have h1:k*n+j*n<=els.length*n:=by rw[<-jI];exact kG _ hk
 refine⟨by rw[kX,bS,kX,bS,hlen,Nat.min_eq_left oM,Nat.min_eq_left oM],λe he=>h.wid e (Uu (aE he)),λi q hi hq=>?_⟩;have hi':i<j:=by rw[kX] at hi;omega
 have hlt:=ZP hi' hq;have e1:((l.drop (k*n)).take (j*n)).getD (i*n+q) undef=l.getD ((k+i)*n+q) undef:=by simp only[gE];rw[bT hlt,List.getElem?_drop,jI,iG]
 have e2:((els.drop k).take j).getD i []=els.getD (k+i) []:=by simp only[gE];rw[bT hi',List.getElem?_drop]
 rw[e1,e2];exact h.at_ (k+i) q oM hq
theorem JT {xs:List (List D)}{v:Value}(h:RepD w S v (.sl xs)){n:Nat}(hn:∀ e,e∈xs->e.length=n){tx e':TypeId}(hk:Pg.underlying tx=some (.slice e')):∃ news,Src Pg n tx v xs.length news w/\Cells w S n news xs:=by
 rcases fT h with⟨rfl,a,cap,rfl⟩|⟨b,o,cap,s,vals,hne,hcap,hS,hs,hc,hrr,hone,rfl⟩
 ·refine⟨[],?_,⟨by simp,λe he=>by grind,λi j hi=>by grind⟩⟩;cases a with
  |none=>grind [Src.ofNil]| some ad=>grind [Src.ofSlice]
 ·have hsn:s=n:=by
   cases xs with
   |nil=>grind| cons x r=>simp_all
  subst hsn;by_cases hs0:s=0;{subst hs0;refine⟨[],Src.ofSlice w hk _ _ cap [] (by simp) (λj u hj=>by grind) (λu hu=>by cases hu),⟨by simp,hs,λi j hi hj=>by omega⟩⟩}
  (have hsp:0<s:=by omega);have hg:∀ k,k<xs.length*s->k/s<xs.length/\k%s<s:=λk hk=>⟨(Zy hsp).2 hk,vK _ hsp⟩
  (have hgd:∀ k,k<xs.length*s->((List.range (xs.length*s)).map λk=>vals (k/s) (k%s))[k]?=some (vals (k/s) (k%s)):=by grind);refine⟨(List.range (xs.length*s)).map λk=>vals (k/s) (k%s),Src.ofSlice w hk _ _ cap _ (by simp) (λk u hu=>?_) (λu hu=>?_),⟨by simp,hs,λi j hi hj=>?_⟩⟩
  ·(have hk:k<xs.length*s:=by grind);rw[hgd k hk] at hu
   cases hu;rw[gQ];have:=hc (k/s) (k%s) (hg k hk).1 (hg k hk).2;rw[<-this];congr 2;grind [Nat.div_add_mod]
  {grind}
  ·have hlt:=ZP hi hj;have:((List.range (xs.length*s)).map λk=>vals (k/s) (k%s)).getD (i*s+j) undef=vals i j:=by
    (rw[gE,hgd _ hlt];have e1:(i*s+j)/s=i:=by grind [Nat.add_mul_div_right,Nat.div_eq_of_lt]);have e2:(i*s+j)%s=j:=by rw[YE,Nat.add_mul_mod_self_right,kE hj]
    grind
   grind
theorem lT (t tx tr e:TypeId)(i:TypeInfo)(ht:Pg.underlying t=some (.slice e))(hi:Pg.info? e=some i)(b off sLen sCap:Nat)(x:Value)(n:Nat)(news:List Value)(hs:Src Pg i.size tx x n news w) (hroom:sLen+n<=sCap) {cur:Array Value} {T:TypeId} (hb:w.heap[b]?=some (.cells cur T (0,0))) (hfit:off+sLen*i.size+news.length<=cur.size):(Builtin.append_ #[t,tx] tr #[.slice (some ⟨b,off,none⟩) sLen sCap,x]).run Pg w=.ok (.slice (some ⟨b,off,none⟩) (sLen+n) sCap) (w.setRow b (wr cur (off+sLen*i.size) news)):=by have hst:=run_storeCells_at (P:=Pg) b (off+sLen*i.size) T news 0 cur w hb oM hs.one;simp only[Vw] at hst;have hst':(storeCells ⟨b,off+sLen*i.size,none⟩ news).run Pg w=.ok () (w.setRow b (wr cur (off+sLen*i.size) news)):=hst;rcases hs.kind with⟨e',hk⟩|hk <;> simp[Builtin.append_,run_underlying ht,run_underlying hk,sizeOf,typeInfo,hi,hs.len,hroom,hs.cells,Addr.add_lit,hst']
theorem tW (t tx tr e:TypeId)(i:TypeInfo)(ht:Pg.underlying t=some (.slice e))(hi:Pg.info? e=some i)(base:Option Addr)(x:Value)(news:List Value)(hs:Src Pg i.size tx x 0 news w):(Builtin.append_ #[t,tx] tr #[.slice base 0 0,x]).run Pg w=.ok (.slice base 0 0) w:=by have hl:news=[]:=kD (by simpa using hs.newsLen);subst hl;cases base <;> rcases hs.kind with⟨e',hk⟩|hk <;> simp[Builtin.append_,run_underlying ht,run_underlying hk,sizeOf,typeInfo,hi,hs.len,hs.cells,storeCells]
theorem mG (z:Array Value)(n:Nat):(Builtin.zeroCells z n).size=n*z.size:=by simp[Builtin.zeroCells]
theorem iE {l:List Value}{z:Array Value}{k:Nat}(hk:k<l.length):(l.toArray++z).getD k undef=l.getD k undef:=by simp[Fl,Array.getElem?_append,hk]
theorem Dr {ps : PS} {o : Oper} {c : Call} {t tx : TypeId} {base x : Operand} {d nm : Nat} (hop : o.op = .call c) (hcl : c.callee = .builtin .append) (hargs : c.args = #[base, x]) (htys : c.argTypes = #[t, tx]) (htx : Zc (ty tx) = true) (hod : o.dst = some d) (hd : d < N)
    {K : PS → Prop} {Km : Act → World → Prop} {Q : Exit → Act → World → Prop} (h : Sim w0 S0 K0 N (zE ps.tmps) ps.objs a w S β) {n b : Nat} {z : List PV} {xs : Unit → List (List D)} (hty : ty t = .sli n b z)
    (hx : (ev (zE ps.tmps) x = .sl xs ∨ (ev (zE ps.tmps) x = .nil ∧ xs () = [])) ∨ ∃ (lg' : Bool) (m' : Nat) (o' len' : Unit → Nat) (ys : Unit → List (List D)), ev (zE ps.tmps) x = .osl m' n o' len' ∧ yN ps.objs m' = some (fH lg' n ys) ∧ o' () + len' () ≤ (ys ()).length ∧ xs () = ((ys ()).drop (o' ())).take (len' ())) (hwid : Wid n xs)
    (hs : (jO (ev (zE ps.tmps) base) = true ∧ Room (fun _ => ((xs ()).length : Nat)) b ∧ yQ nm ps = true ∧ K ⟨uA ps.tmps d (.osl nm n (fun _ => 0) (fun _ => (xs ()).length)), ps.objs ++ [(nm, .arr n xs)]⟩) ∨
     (∃ (lg : Bool) (m : Nat) (o len : Unit → Nat) (els els0 : Unit → List (List D)), ev (zE ps.tmps) base = .osl m n o len ∧ yN ps.objs m = some (fH lg n els0) ∧ o () = 0 ∧ len () = (els ()).length ∧ els () = (els0 ()).take (len ()) ∧ (lg = true → els0 () = els ()) ∧ Room (fun _ => (((els ()).length + (xs ()).length : Nat) : Int)) b ∧
       yQ nm ⟨vZ (scr m) ps.tmps, xL (scr m) (v8 ps.objs m)⟩ = true ∧
       K ⟨uA (vZ (scr m) ps.tmps) d (.osl nm n (fun _ => 0) (fun _ => (els ()).length + (xs ()).length)), xL (scr m) (v8 ps.objs m) ++ [(nm, fH lg n (fun _ => els () ++ xs ()))]⟩))
    (hk : ∀ ps' a' w' S' β', K ps' → Sim w0 S0 K0 N (zE ps'.tmps) ps'.objs a' w' S' β' → Km a' w') : o.wp Pg a w Km Q := by
  obtain ⟨inf, el, j, zv, h1, h2, h3, h4, h5, h6, h7, h8, h9, h10, h11, h12⟩ := qX hty
  obtain ⟨e', hk'⟩ : ∃ e', Pg.underlying tx = some (.slice e') := by
    cases htx' : ty tx with
    | sli n' b' z' => obtain ⟨_, e', _, _, _, _, _, g4, _⟩ := qX htx'; grind
    | _ => rw [htx'] at htx; cases htx
  have hrx := h.eval x; have hrb := h.eval base
  have hsrc0 : ∃ news, Src Pg n tx (a.eval x) (xs ()).length news w ∧ Cells w S n news (xs ()) := by
    rcases hx with hx | ⟨lg', m', o', len', ys, hx, ho', h0', hl'⟩
    · have hxd : RepD w S (a.eval x) (.sl (xs ())) := by
        rcases hx with hx | ⟨hx, hx0⟩
        · rw [hx] at hrx; exact pD hrx
        · rw [hx] at hrx
          rw [fS hrx, hx0]
          exact .sl0 _ _
      exact JT hxd hwid.h hk'
    · rw [hx] at hrx
      rcases j2 hrx with ⟨_, _, hl0, av, hv⟩ | ⟨bb, cap, vs, T, hβ, hlc, hw, hsz, hv⟩
      · have he0 : xs () = [] := by rw [hl', hl0]; simp
        rw [hv, he0]
        exact JT (.sl0 _ _) (by simp) hk'
      · obtain ⟨vs', T', hw', hlen', hce0⟩ := Zr (h.obj.at_ m' _ (xU ho')) hβ
        rw [hw] at hw'
        cases hw'
        have hce := hce0.sub h0'
        rw [← hl'] at hce
        have hxl : (xs ()).length = len' () := by rw [hl', kX, bS]; omega
        have hfit' : o' () * n + len' () * n ≤ (ys ()).length * n := by rw [← jI]; exact kG _ h0'
        rw [← hxl] at hce hv hfit'
        refine ⟨_, ?_, hce⟩
        rw [hv]
        have hidx : ∀ k, k < (xs ()).length * n → (((vs.toList.take ((ys ()).length * n)).drop (o' () * n)).take ((xs ()).length * n))[k]? = vs[o' () * n + k]? := fun k hk => by
          rw [bT hk, List.getElem?_drop, bT oM]
          simp
        refine Src.ofSlice w hk' _ _ cap _ hce.len (fun k u hu => ?_) (fun u hu => ?_)
        · have hkl : k < (xs ()).length * n := by
            grind
          rw [hidx k hkl] at hu
          rw [gQ]
          have hc := cW hw (o' () * n + k) oM
          simp_all
        · obtain ⟨k, hk0⟩ := List.mem_iff_getElem?.1 hu
          have hkl : k < (xs ()).length * n := by
            grind
          by_cases hn0 : n = 0
          · subst hn0; omega
          have hg := (hce.at_ (k / n) (k % n) ((Zy oM).2 hkl) (vK _ oM)).2
          rw [show k / n * n + k % n = k by rw [kI]; exact Nat.div_add_mod k n, gE, hk0] at hg
          exact hg
  obtain ⟨news, hsrc, hcells⟩ := hsrc0
  rw [← h7] at hsrc
  have hgo : ∀ v w', (Builtin.append_ #[t, tx] o.type #[a.eval base, a.eval x]).run Pg w = .ok v w' → Km (a.put (some d) v) w' → o.wp Pg a w Km Q := by
    intro v w' hr hkm
    refine jC (v := v) (w' := w') ?_ (by grind)
    simp [execOp, hop, resolve, hcl, invoke, Go.builtin, hargs, htys, hr]
  
  have grow : ∀ (lg : Bool) {qs : PS} {β1 : Bm} (hq : Sim w0 S0 K0 N (zE qs.tmps) qs.objs a w S β1) (hf : yQ nm qs = true) (av : Option Addr) (sLen sCap : Nat) (olds : List Value) (els : Unit → List (List D)) (hba : a.eval base = .slice av sLen sCap)
      (hold : (Builtin.firstCells j.size sLen (.slice av sLen sCap)).run Pg w.drew = .ok olds.toArray w.drew) (hce : Cells w S n olds (els ())) (hsl : sLen = (els ()).length) (hg : sCap < sLen + (xs ()).length)
      (hroom : ((sLen + (xs ()).length : Nat) : Int) * (b : Int) ≤ 70368744177664)
      (hK : K ⟨uA qs.tmps d (.osl nm n (fun _ => 0) (fun _ => (els ()).length + (xs ()).length)), qs.objs ++ [(nm, fH lg n (fun _ => els () ++ xs ()))]⟩), o.wp Pg a w Km Q := by
    intro lg qs β1 hq hf av sLen sCap olds els hba hold hce hsl hg hroom hK
    have hb1 : sLen + (xs ()).length ≤ (sLen + (xs ()).length) * b := Nat.le_mul_of_pos_right _ h12
    have hroom' : (sLen + (xs ()).length) * b ≤ 70368744177664 := by
      omega
    have hfit : Builtin.nextslicecap (sLen + (xs ()).length) sCap * j.bytes ≤ 281474976710656 := by
      have := nextslicecap_le hg
      rw [h8]
      calc _ ≤ (2 * (sLen + (xs ()).length)) * b := kG _ this
        _ = 2 * ((sLen + (xs ()).length) * b) := by grind
        _ ≤ _ := by omega
    have hrun := run_append_grow_src (P := Pg) w t tx o.type el j zv h4 h5 h6 av sLen sCap olds hold (a.eval x) (xs ()).length news hsrc hg oM hfit
    rw [← hba] at hrun
    refine hgo _ _ hrun ?_
    generalize hcap : grownCap w (sLen + (xs ()).length) sCap el = cap
    have hge : sLen + (xs ()).length ≤ cap := by grind [grownCap_ge]
    have hld1 := rF (w := w) (S := S) h.ld.bnd
    have hbd : ∀ c i, S c i → c < w.drew.heap.size := h.ld.bnd
    have hld2 := qI (w := w.drew) (S := S) hbd (.cells ((olds ++ news).toArray ++ Builtin.zeroCells zv.cells (cap - (sLen + (xs ()).length))) el)
    have hld := hld1.trans hld2
    have hcc := (hce.append hcells)
    have hcl' : (olds ++ news).length = (sLen + (xs ()).length) * n := by rw [hcc.len, gD, hsl]
    have hsz : ((olds ++ news).toArray ++ Builtin.zeroCells zv.cells (cap - (sLen + (xs ()).length))).size = cap * n := by
      rw [Array.size_append, mG, h9, Fk, hcl', ← jI]
      congr 1
      omega
    have hblk : (w.drew.alloc (.cells ((olds ++ news).toArray ++ Builtin.zeroCells zv.cells (cap - (sLen + (xs ()).length))) el)).heap[w.heap.size]? = some (.cells ((olds ++ news).toArray ++ Builtin.zeroCells zv.cells (cap - (sLen + (xs ()).length))) el (0, 0)) := heap_alloc_new w.drew _
    have hn := hq.newObj (b := w.heap.size) (o := fH lg n (fun _ => els () ++ xs ())) hf hld (yD _) (by simp)
      (Cells.obj (l := olds ++ news) (hcc.evo (hld.evo h.ld.bnd).same (hld.subs h.ld.bnd)) xG hblk (by rw [hsz, hcl']; exact kG _ hge) (fun k hk => iE hk)) (XV lg _ _)
    refine hk _ _ _ _ _ hK (hn.putT' d hd ?_)
    have := Rep.osl (w := w.drew.alloc (.cells ((olds ++ news).toArray ++ Builtin.zeroCells zv.cells (cap - (sLen + (xs ()).length))) el)) (S := S) (β := fO β1 nm (some w.heap.size)) (n := nm) (s := n) (cap := cap) (b := w.heap.size) (o := fun _ => 0) (len := fun _ => (els ()).length + (xs ()).length)
      xG (by rw [← hsl]; exact hge) hblk (by rw [hsz, jW]; exact yD _)
    rw [ZA] at this
    have e : Value.slice (some ⟨w.heap.size, 0, none⟩) (sLen + (xs ()).length) cap = Value.slice (some ⟨w.heap.size, 0, none⟩) ((els ()).length + (xs ()).length) cap := by rw [hsl]
    rw [e]
    exact this
  
  have onNil : ∀ (lg : Bool) {qs : PS} {β1 : Bm} (hq : Sim w0 S0 K0 N (zE qs.tmps) qs.objs a w S β1) (hf : yQ nm qs = true) (av : Option Addr) (hba : a.eval base = .slice av 0 0) (els : Unit → List (List D)) (he0 : els () = [])
      (hroom : (((xs ()).length : Nat) : Int) * (b : Int) ≤ 70368744177664)
      (hK : K ⟨uA qs.tmps d (.osl nm n (fun _ => 0) (fun _ => (els ()).length + (xs ()).length)), qs.objs ++ [(nm, fH lg n (fun _ => els () ++ xs ()))]⟩), o.wp Pg a w Km Q := by
    intro lg qs β1 hq hf av hba els he0 hroom hK
    by_cases hx0 : (xs ()).length = 0
    · have hsrc' := hsrc
      rw [hx0] at hsrc'
      have hrun := tW (w := w) t tx o.type el j h4 h5 av (a.eval x) news hsrc'
      rw [← hba] at hrun
      refine hgo _ _ hrun ?_
      have hxe : xs () = [] := kD hx0
      have hn := hq.newNil (lg := lg) (n := nm) (s := n) (els := fun _ => els () ++ xs ()) hf (by grind)
      refine hk _ _ _ _ _ hK (hn.putT' d hd ?_)
      rw [hba]
      exact .osl0 xG rfl (by grind)
    · refine grow lg hq hf av 0 0 [] els hba ?_ ⟨by rw [he0]; simp, fun e he => (by rw [he0] at he; cases he), fun i j hi => (by rw [he0] at hi; simp at hi)⟩ (by rw [he0]; rfl) oM (by grind) hK
      cases av with
      | none => exact run_firstCells_none w.drew j.size 0 0 0
      | some ad => exact run_firstCells_some w.drew j.size 0 ad 0 0 [] (by simp) (fun j u hj => by simp at hj)
  rcases hs with ⟨hb, hR, hf, hK⟩ | ⟨lg, m, oo, len, els, els0, hb, ho, ho0, hlen, htk, hlg, hR, hf, hK⟩
  · obtain ⟨⟨av0, hv⟩, _⟩ := oN hb hrb
    have hK' : K ⟨uA ps.tmps d (.osl nm n (fun _ => 0) (fun _ => ((fun _ => []) () : List (List D)).length + (xs ()).length)), ps.objs ++ [(nm, .arr n (fun _ => ((fun _ => []) () : List (List D)) ++ xs ()))]⟩ := by
      have e1 : (fun _ : Unit => ([] : List (List D)).length + (xs ()).length) = fun _ => (xs ()).length := by funext _; simp
      have e2 : (fun _ : Unit => ([] : List (List D)) ++ xs ()) = xs := by funext _; rfl
      grind
    exact onNil false h hf av0 hv (fun _ => []) rfl hR.hi hK'
  · rw [hb] at hrb
    have hmem := xU ho
    have hdrop := h.drop m
    have hq : Sim w0 S0 K0 N (zE (PS.mk (vZ (scr m) ps.tmps) (xL (scr m) (v8 ps.objs m))).tmps) (PS.mk (vZ (scr m) ps.tmps) (xL (scr m) (v8 ps.objs m))).objs a w S β := hdrop
    rcases j2 hrb with ⟨hn, _, hl0, av, hv⟩ | ⟨bb, cap, vs, T, hβ, hlc, hw, hsz, hv⟩
    · have he0 : els () = [] := kD oM
      exact onNil lg hq hf av hv els he0 (by have := hR.hi; rw [he0] at this; simpa using this) hK
    · obtain ⟨vs', T', hw', hlen0, hce0⟩ := Zr (h.obj.at_ m _ hmem) hβ
      rw [hw] at hw'
      cases hw'
      have hle : (els ()).length ≤ (els0 ()).length := by rw [htk, kX]; omega
      have hlen' : (els ()).length * n ≤ vs.size := vL (kG _ hle) hlen0
      have hce : Cells w S n (vs.toList.take ((els ()).length * n)) (els ()) := by
        have := hce0.sub (k := 0) (j := (els ()).length) oM
        rw [ZA, wZ, wZ, List.take_take, Nat.min_eq_left (kG _ hle), ← hlen, ← htk] at this
        rwa [hlen] at this
      rw [ho0, ZA] at hv
      rw [ho0, jW] at hsz
      obtain ⟨hnS, hlt⟩ := h.obj.un m _ bb hmem (.inl hβ)
      by_cases hroom : len () + (xs ()).length ≤ cap
      · have hnl : news.length = (xs ()).length * n := hcells.len
        have hfit : 0 + len () * j.size + news.length ≤ vs.size := by
          rw [h7, hnl, jW, ← jI]
          exact vL (kG _ hroom) hsz
        have hrun := lT (w := w) t tx o.type el j h4 h5 bb 0 (len ()) cap (a.eval x) (xs ()).length news hsrc hroom hw hfit
        rw [← hv] at hrun
        refine hgo _ _ hrun ?_
        have hfree := Dd h hmem hβ
        have hwsz := Uy hfit
        have hold : ∀ i, S bb i → i < (els ()).length * n := fun i hS => by
          have := hnS i hS
          cases lg with
          | true => rw [← hlg rfl]; exact this
          | false => exact this.elim
        have hnS' : ∀ i, S bb i → (wr vs (0 + len () * j.size) news)[i]? = vs[i]? := fun i hS => by
          have h1 := hold i hS
          have h2 : i < vs.size := by
            have : (els ()).length * n ≤ vs.size := hlen'
            omega
          have h3 := YN hfit i
          rw [if_neg (by rw [h7, hlen]; omega)] at h3
          have h4 : i < (wr vs (0 + len () * j.size) news).size := by rw [hwsz]; exact h2
          rw [JH h4, JH h2]
          simp only [Fl, JH h4, JH h2, Pn] at h3
          rw [h3]
        have hwild := Sim.wild hq (vs' := wr vs (0 + len () * j.size) news) hnS' hfree (h.own m _ bb hmem (.inl hβ)) hw hwsz
        have he := rD (w := w) (S := S) (vs' := wr vs (0 + len () * j.size) news) hnS' hw hwsz
        have hcc := hce.append hcells
        have hcl' : (vs.toList.take ((els ()).length * n) ++ news).length = ((els ()).length + (xs ()).length) * n := by rw [hcc.len, gD]
        have hblk : (w.setRow bb (wr vs (0 + len () * j.size) news)).heap[bb]? = some (.cells (wr vs (0 + len () * j.size) news) T (0, 0)) := setRow_heap w bb vs _ T _ hw
        have hadd := Sim.addObj (ps := PS.mk (vZ (scr m) ps.tmps) (xL (scr m) (v8 ps.objs m))) hwild (o := fH lg n (fun _ => els () ++ xs ())) hf (fun i hS => by
          have h1 := hnS i hS
          cases lg with
          | true =>
            have h2 : i < (els ()).length * n := by rw [← hlg rfl]; exact h1
            show i < (els () ++ xs ()).length * n
            rw [gD, jI]
            omega
          | false => exact h1.elim) (by simpa using hlt) hfree (h.own m _ bb hmem (.inl hβ))
          (Cells.obj (l := vs.toList.take ((els ()).length * n) ++ news) (hcc.evo he.same (fun _ _ h => h)) xG hblk (by rw [hwsz, hcl', ← hlen]; exact vL (kG _ hroom) hsz) (fun k hk => by
            rw [YN hfit]
            have htl : (vs.toList.take ((els ()).length * n)).length = (els ()).length * n := by simp; omega
            rw [h7, jW, hlen]
            rw [hcl', jI] at hk
            by_cases hkl : k < (els ()).length * n
            · rw [if_neg oM, gE, JJ (by rw [htl]; exact hkl), bT hkl]
              simp
            · rw [if_pos oM]
              simp only [gE]
              rw [iH (by rw [htl]; omega), htl])) (XV lg _ _)
        refine hk _ _ _ _ _ hK (hadd.putT' d hd ?_)
        have := Rep.osl (w := w.setRow bb (wr vs (0 + len () * j.size) news)) (S := S) (β := fO β nm (some bb)) (n := nm) (s := n) (cap := cap) (b := bb) (o := fun _ => 0) (len := fun _ => (els ()).length + (xs ()).length)
          xG (by rw [← hlen]; exact hroom) hblk (by rw [hwsz, jW]; exact hsz)
        rw [ZA] at this
        have e : Value.slice (some ⟨bb, 0, none⟩) (len () + (xs ()).length) cap = Value.slice (some ⟨bb, 0, none⟩) ((els ()).length + (xs ()).length) cap := by rw [hlen]
        rw [e]
        exact this
      · refine grow lg hq hf (some ⟨bb, 0, none⟩) (len ()) cap (vs.toList.take ((els ()).length * n)) els hv ?_ hce hlen oM (by rw [hlen]; exact hR.hi) hK
        refine run_firstCells_some w.drew j.size (len ()) ⟨bb, 0, none⟩ (len ()) cap _ (by rw [h7, hlen]; exact hce.len) (fun k u hu => ?_)
        have hkl : k < (els ()).length * n := by
          rcases kV k ((els ()).length * n) with h' | h'
          · exact h'
          · rw [tD (by simp; omega)] at hu; cases hu
        rw [bT hkl] at hu
        rw [gQ, jW]
        have hc := cW hw k oM
        have : vs.getD k undef = u := by
          have : vs[k]? = some u := by simpa using hu
          simp [this]
        rw [this] at hc
        exact hc
theorem QP {o:Oper}{c:Call}{t tx:TypeId}{base x:Operand}(hop:o.op=.call c)(hcl:c.callee=.builtin .append)(hargs:c.args=#[base,x])(htys:c.argTypes=#[t,tx])(htx:Zc (ty tx)=true) {K:PV->Prop} {Km:Act->World->Prop} {Q:Exit->Act->World->Prop} (h:Sim w0 S0 K0 N τ objs a w S β) {n b:Nat} {z:List PV} (hty:ty t=.sli n b z) (hbn:jO (ev τ base)=true) (hs:Jz n b (ev τ base) (ev τ x) K) (hk:∀ pv w' S' v,K pv->Leads w S u7 w' S'->Rep w' S' β v pv->Km (a.put o.dst v) w'):o.wp Pg a w Km Q:=by
 obtain⟨inf,el,j,zv,h1,h2,h3,h4,h5,h6,h7,h8,h9,h10,h11,h12⟩:=qX hty;obtain⟨e',hk'⟩:∃ e',Pg.underlying tx=some (.slice e'):=by
  cases htx':ty tx with
  |sli n' b' z'=>obtain⟨_,e',_,_,_,_,_,g4,_⟩:=qX htx';grind
  |_=>rw[htx'] at htx;cases htx
 have hrx:=h.eval x;have hrb:=h.eval base;obtain⟨⟨av,hba⟩,hrb'⟩:=oN hbn hrb;have hgo:∀ v w',(Builtin.append_ #[t,tx] o.type #[a.eval base,a.eval x]).run Pg w=.ok v w'->Km (a.put o.dst v) w'->o.wp Pg a w Km Q:=by intro v w' hr hkm;refine jC (v:=v) (w':=w') ?_ hkm;simp[execOp,hop,resolve,hcl,invoke,Go.builtin,hargs,htys,hr]
 obtain⟨xs,hwid,hR,hxd,hK,hK0⟩:∃ xs:Unit->List (List D),Wid n xs/\Room (λ_=>((xs ()).length:Nat)) b/\RepD w S (a.eval x) (.sl (xs ()))/\(xs ()≠[]->K (.sl xs))/\(xs ()=[]->∃ pv,K pv/\∀ w' S',Rep w' S' β (a.eval base) pv):=by unfold Jz at hs;split at hs;{rename_i xs hx;rw[hx] at hrx;exact⟨xs,hs.1,hs.2.1,pD hrx,λ_=>hs.2.2,λe=>⟨_,hs.2.2,λw' S'=>by rw[hba];exact .c rfl (by show RepD _ _ _ (.sl (xs ()));rw[e];exact .sl0 _ _)⟩⟩};{rename_i hx;rw[hx] at hrx;exact⟨λ_=>[],⟨λe he=>absurd he (by simp)⟩,⟨by simp,by simp⟩,by rw[fS hrx];exact .sl0 _ _,λe=>absurd rfl e,λ_=>⟨_,hs,λw' S'=>hrb'⟩⟩};grind
 obtain⟨news,hsrc,hcells⟩:=JT hxd hwid.h hk';rw[<-h7] at hsrc;by_cases hx0:(xs ()).length=0;{have hsrc':=hsrc;rw[hx0] at hsrc';have hrun:=tW (w:=w) t tx o.type el j h4 h5 av (a.eval x) news hsrc';rw[<-hba] at hrun;obtain⟨pv,q1,q2⟩:=hK0 (kD hx0);refine hgo _ _ hrun ?_;refine hk _ _ _ _ q1 (Leads.refl h.ld.bnd) ?_;grind}
 ·have hne:xs ()≠[]:=λe=>hx0 (by grind);have hold:(Builtin.firstCells j.size 0 (.slice av 0 0)).run Pg w.drew=.ok ([]:List Value).toArray w.drew:=by
   cases av with
   |none=>grind [run_firstCells_none]| some ad=>grind [run_firstCells_some]
  (have hb1:(xs ()).length<=(xs ()).length*b:=Nat.le_mul_of_pos_right _ h12;have hroom':(xs ()).length*b<=70368744177664:=by have:=hR.hi;omega);have hfit:Builtin.nextslicecap (0+(xs ()).length) 0*j.bytes<=281474976710656:=by
   have:=nextslicecap_le (show 0<0+(xs ()).length by omega);rw[h8]
   calc _<=(2*(0+(xs ()).length))*b:=kG _ this
    _=2*((xs ()).length*b):=by grind
    _<=_:=by omega
  (have hrun:=run_append_grow_src (P:=Pg) w t tx o.type el j zv h4 h5 h6 av 0 0 [] hold (a.eval x) (xs ()).length news hsrc oM oM hfit;rw[<-hba] at hrun;refine hgo _ _ hrun ?_;generalize hcap:grownCap w (0+(xs ()).length) 0 el=cap;have hge:0+(xs ()).length<=cap:=by grind [grownCap_ge]);have hld1:=rF (w:=w) (S:=S) h.ld.bnd
  have hbd:∀ c i,S c i->c<w.drew.heap.size:=h.ld.bnd;have hld2:=YD (w:=w.drew) (S:=S) hbd (.cells (([]++news).toArray++Builtin.zeroCells zv.cells (cap-(0+(xs ()).length))) el);have hld:=hld1.trans hld2;have hsz:(([]++news).toArray++Builtin.zeroCells zv.cells (cap-(0+(xs ()).length))).size=cap*n:=by rw[Array.size_append,mG,h9,Fk,JF,hcells.len,<-jI];grind
  (have hblk:(w.drew.alloc (.cells (([]++news).toArray++Builtin.zeroCells zv.cells (cap-(0+(xs ()).length))) el)).heap[w.heap.size]?=some (.cells (([]++news).toArray++Builtin.zeroCells zv.cells (cap-(0+(xs ()).length))) el (0,0)):=heap_alloc_new w.drew _;have hce:=hcells.evo (hld.evo h.ld.bnd).same (hld.subs h.ld.bnd);refine hk _ _ _ _ (hK hne) hld (.c rfl ?_);show RepD _ _ _ (.sl (xs ()));refine (congrArg (λm=>RepD (w.drew.alloc (.cells (([]++news).toArray++Builtin.zeroCells zv.cells (cap-(0+(xs ()).length))) el)) _ (.slice (some ⟨w.heap.size,0,none⟩) m cap) (.sl (xs ()))) (jW (xs ()).length)).mpr ?_;have hin:∀ i q,i<(xs ()).length->q<n->i*n+q<news.length:=λi q hi hq=>by rw[hcells.len];exact ZP hi hq);have hval:∀ k,k<news.length->(([]++news).toArray++Builtin.zeroCells zv.cells (cap-(0+(xs ()).length))).getD k undef=news.getD k undef:=λk hk=>iE hk
  (refine RepD.sl (s:=n) (λi q=>news.getD (i*n+q) undef) hne oM (λ_ _ _ _=>Or.inr rfl) hcells.wid (λi q hi hq=>?_) (λi q hi hq=>(hce.at_ i q hi hq).2) (λi q hi hq=>(hce.at_ i q hi hq).1);have hlt:=hin i q hi hq;have hlt2:i*n+q<(([]++news).toArray++Builtin.zeroCells zv.cells (cap-(0+(xs ()).length))).size:=by rw[Array.size_append,Fk,JF];omega);have hca:=cW hblk _ hlt2
  rw[hval _ hlt] at hca;rw[show 0+i*n+q=i*n+q by omega];exact hca
end
end Go.Proofs.YtaeaffgjdcigoaaGreat
